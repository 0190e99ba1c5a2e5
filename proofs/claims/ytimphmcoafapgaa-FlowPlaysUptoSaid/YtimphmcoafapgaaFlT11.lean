/- Contracts of functions of the program, each proved by a walk through its code; conditions stand in the statements. -/
import Derived.Test.YtimphmcoafapgaaFlS11
namespace Go.Proofs.Ytimphmcoafapgaa
set_option linter.unusedSimpArgs false
set_option linter.unusedVariables false
set_option linter.unusedSectionVars false
open Go Go.RowKit Go.Tw
set_option linter.unusedVariables false
set_option maxRecDepth 20000
theorem New_no (a n : Int) (w : World) (h : a < 0 ∨ 4096 < a ∨ n < 0 ∨ 4096 < n) : Calls Try.prog 10 #[.int .i64 a, .int .i64 n] w fun e w' => e = .returned (.tuple #[.pointer none, .iface 47 (.int .i64 4)]) ∧ Fr w w' [] := by
  refine enterD (n := 28) Try.func10 rfl rfl (Nat.le_of_ble_eq_true rfl) ?_
  intro Q0 hN hret hret'
  have hC := Cx.start w
  refine WC.seq (fun K1 hK2 => ?_)
  refine WC.region ?_
  refine WL.runs 2 [(5, .nilIface), (4, .pointer none)] (fun _ => by kernel_rfl) ?_
  refine WL.done rfl ?_
  refine QX.then_normal (hK2 _ _ ?_)
  refine WC.seq (fun K3 hK4 => ?_)
  refine WC.seq (fun K5 hK6 => ?_)
  refine WC.region ?_
  refine WL.runs 3 [(8, .bool (decide (a < 0))), (7, .bool (decide (a < 0))), (6, .int .i64 a)] (fun _ => by kernel_rfl) ?_
  refine WL.test_at 8 (decide (a < 0)) rfl (fun t7b => ?_) (fun t7b => ?_)
  · -- a < 0: true
    have t7 : a < 0 := by have q_ := of_decide_eq_true t7b; omega
    refine WL.runs 11 [(19, .bool true), (18, undef), (17, undef), (16, .bool true), (15, .bool true), (14, undef), (13, undef), (12, .bool true), (11, .bool true), (10, undef), (9, undef)] (fun _ => by kernel_rfl) ?_
    refine WL.done rfl ?_
    refine QX.then_normal (hK6 _ _ ?_)
    refine WC.cond_true rfl ?_
    refine WC.seq (fun K8 hK9 => ?_)
    refine WC.region ?_
    refine WL.runs 3 [(5, .iface 47 (.int .i64 4)), (4, .pointer none), (20, .iface 47 (.int .i64 4))] (fun _ => by kernel_rfl) ?_
    refine WL.done rfl ?_
    refine QX.then_normal (hK9 _ _ ?_)
    refine WC.ret ?_
    refine QX.then_ret ?_
    refine (hret _ _ _ rfl ?_).1
    clear hN hret hret' hK9 hK6 hK4 hK2
    exact ⟨rfl, hC.fr⟩
  · -- a < 0: false
    have t7 : (0 : Int) ≤ a := by have q_ := of_decide_eq_false t7b; omega
    refine WL.runs 4 [(12, .bool (decide (a > 4096))), (11, .bool (decide (a > 4096))), (10, .bool (decide (a > 4096))), (9, .int .i64 a)] (fun _ => by kernel_rfl) ?_
    refine WL.test_at 12 (decide (a > 4096)) rfl (fun t10b => ?_) (fun t10b => ?_)
    · -- a > 4096: true
      have t10 : (4096 : Int) < a := by have q_ := of_decide_eq_true t10b; omega
      refine WL.runs 7 [(19, .bool true), (18, undef), (17, undef), (16, .bool true), (15, .bool true), (14, undef), (13, undef)] (fun _ => by kernel_rfl) ?_
      refine WL.done rfl ?_
      refine QX.then_normal (hK6 _ _ ?_)
      refine WC.cond_true rfl ?_
      refine WC.seq (fun K11 hK12 => ?_)
      refine WC.region ?_
      refine WL.runs 3 [(5, .iface 47 (.int .i64 4)), (4, .pointer none), (20, .iface 47 (.int .i64 4))] (fun _ => by kernel_rfl) ?_
      refine WL.done rfl ?_
      refine QX.then_normal (hK12 _ _ ?_)
      refine WC.ret ?_
      refine QX.then_ret ?_
      refine (hret _ _ _ rfl ?_).1
      clear hN hret hret' hK12 hK6 hK4 hK2
      exact ⟨rfl, hC.fr⟩
    · -- a > 4096: false
      have t10 : a ≤ 4096 := by have q_ := of_decide_eq_false t10b; omega
      refine WL.runs 4 [(16, .bool (decide (n < 0))), (15, .bool (decide (n < 0))), (14, .bool (decide (n < 0))), (13, .int .i64 n)] (fun _ => by kernel_rfl) ?_
      refine WL.test_at 16 (decide (n < 0)) rfl (fun t13b => ?_) (fun t13b => ?_)
      · -- n < 0: true
        have t13 : n < 0 := by have q_ := of_decide_eq_true t13b; omega
        refine WL.runs 3 [(19, .bool true), (18, undef), (17, undef)] (fun _ => by kernel_rfl) ?_
        refine WL.done rfl ?_
        refine QX.then_normal (hK6 _ _ ?_)
        refine WC.cond_true rfl ?_
        refine WC.seq (fun K14 hK15 => ?_)
        refine WC.region ?_
        refine WL.runs 3 [(5, .iface 47 (.int .i64 4)), (4, .pointer none), (20, .iface 47 (.int .i64 4))] (fun _ => by kernel_rfl) ?_
        refine WL.done rfl ?_
        refine QX.then_normal (hK15 _ _ ?_)
        refine WC.ret ?_
        refine QX.then_ret ?_
        refine (hret _ _ _ rfl ?_).1
        clear hN hret hret' hK15 hK6 hK4 hK2
        exact ⟨rfl, hC.fr⟩
      · -- n < 0: false
        have t13 : (0 : Int) ≤ n := by have q_ := of_decide_eq_false t13b; omega
        refine WL.runs 3 [(19, .bool (decide (n > 4096))), (18, .bool (decide (n > 4096))), (17, .int .i64 n)] (fun _ => by kernel_rfl) ?_
        refine WL.done rfl ?_
        refine QX.then_normal (hK6 _ _ ?_)
        refine WC.test_at 19 (decide (n > 4096)) rfl (fun t16b => ?_) (fun t16b => ?_)
        · -- n > 4096: true
          have t16 : (4096 : Int) < n := by have q_ := of_decide_eq_true t16b; omega
          refine WC.cond_true rfl ?_
          refine WC.seq (fun K17 hK18 => ?_)
          refine WC.region ?_
          refine WL.runs 3 [(5, .iface 47 (.int .i64 4)), (4, .pointer none), (20, .iface 47 (.int .i64 4))] (fun _ => by kernel_rfl) ?_
          refine WL.done rfl ?_
          refine QX.then_normal (hK18 _ _ ?_)
          refine WC.ret ?_
          refine QX.then_ret ?_
          refine (hret _ _ _ rfl ?_).1
          clear hN hret hret' hK18 hK6 hK4 hK2
          exact ⟨rfl, hC.fr⟩
        · -- n > 4096: false
          have t16 : n ≤ 4096 := by have q_ := of_decide_eq_false t16b; omega
          refine WC.cond_false rfl ?_
          refine WC.skip ?_
          refine QX.then_normal (hK4 _ _ ?_)
          refine WC.seq (fun K19 hK20 => ?_)
          refine WC.region ?_
          exfalso; omega

theorem Num_nil  (w : World) : Calls Try.prog 20 #[.nilIface] w fun e w' => e = .returned (.int .i64 0) ∧ Fr w w' [] := by
  refine enterD (n := 19) Try.func20 rfl rfl (Nat.le_of_ble_eq_true rfl) ?_
  intro Q0 hN hret hret'
  have hC := Cx.start w
  refine WC.seq (fun K1 hK2 => ?_)
  refine WC.region ?_
  refine WL.runs 1 [(2, .int .i64 0)] (fun _ => by kernel_rfl) ?_
  refine WL.done rfl ?_
  refine QX.then_normal (hK2 _ _ ?_)
  refine WC.seq (fun K3 hK4 => ?_)
  refine WC.seq (fun K5 hK6 => ?_)
  refine WC.region ?_
  refine WL.runs 2 [(6, .bool true), (5, .nilIface)] (fun _ => by kernel_rfl) ?_
  refine WL.done rfl ?_
  refine QX.then_normal (hK6 _ _ ?_)
  refine WC.cond_true rfl ?_
  refine WC.seq (fun K7 hK8 => ?_)
  refine WC.region ?_
  refine WL.runs 1 [(2, .int .i64 0)] (fun _ => by kernel_rfl) ?_
  refine WL.done rfl ?_
  refine QX.then_normal (hK8 _ _ ?_)
  refine WC.ret ?_
  refine QX.then_ret ?_
  refine (hret _ _ _ rfl ?_).1
  clear hN hret hret' hK8 hK6 hK4 hK2
  exact ⟨rfl, hC.fr⟩

theorem Num_some (c : Int) (w : World) (hc : c ≠ 0) : Calls Try.prog 20 #[.iface 47 (.int .i64 c)] w fun e w' => e = .returned (.int .i64 c) ∧ Fr w w' [] := by
  refine enterD (n := 19) Try.func20 rfl rfl (Nat.le_of_ble_eq_true rfl) ?_
  intro Q0 hN hret hret'
  have hC := Cx.start w
  refine WC.seq (fun K1 hK2 => ?_)
  refine WC.region ?_
  refine WL.runs 1 [(2, .int .i64 0)] (fun _ => by kernel_rfl) ?_
  refine WL.done rfl ?_
  refine QX.then_normal (hK2 _ _ ?_)
  refine WC.seq (fun K3 hK4 => ?_)
  refine WC.seq (fun K5 hK6 => ?_)
  refine WC.region ?_
  refine WL.runs 2 [(6, .bool false), (5, .iface 47 (.int .i64 c))] (fun _ => by kernel_rfl) ?_
  refine WL.done rfl ?_
  refine QX.then_normal (hK6 _ _ ?_)
  refine WC.cond_false rfl ?_
  refine WC.skip ?_
  refine QX.then_normal (hK4 _ _ ?_)
  refine WC.seq (fun K7 hK8 => ?_)
  refine WC.region ?_
  refine WL.runs 7 [(4, .bool true), (3, .int .i64 c), (11, .bool true), (10, .int .i64 c), (7, .tuple #[.int .i64 c, .bool true]), (9, .tuple #[.int .i64 c, .bool true]), (8, .iface 47 (.int .i64 c))] (fun _ => by kernel_rfl) ?_
  refine WL.done rfl ?_
  refine QX.then_normal (hK8 _ _ ?_)
  refine WC.seq (fun K9 hK10 => ?_)
  refine WC.seq (fun K11 hK12 => ?_)
  refine WC.region ?_
  refine WL.runs 6 [(17, .bool (c == 0)), (16, .bool (c == 0)), (15, .int .i64 c), (14, .bool false), (13, .bool false), (12, .bool true)] (fun _ => by kernel_rfl) ?_
  refine WL.done rfl ?_
  refine QX.then_normal (hK12 _ _ ?_)
  refine WC.know 17 (.bool (c == 0)) (.bool false) rfl (congrArg Value.bool (by simpa using hc)) ?_
  refine WC.cond_false rfl ?_
  refine WC.skip ?_
  refine QX.then_normal (hK10 _ _ ?_)
  refine WC.seq (fun K13 hK14 => ?_)
  refine WC.region ?_
  refine WL.runs 2 [(2, .int .i64 c), (18, .int .i64 c)] (fun _ => by kernel_rfl) ?_
  refine WL.done rfl ?_
  refine QX.then_normal (hK14 _ _ ?_)
  refine WC.ret ?_
  refine (hret _ _ _ rfl ?_).1
  clear hN hret hret' hK14 hK12 hK10 hK8 hK6 hK4 hK2
  exact ⟨rfl, hC.fr⟩

theorem Num_ct (c : Int) (w : World) : Calls Try.prog 20 #[errV 47 c] w fun e w' => e = .returned (.int .i64 c) ∧ Fr w w' [] := by
  by_cases h : c = 0
  · subst h; exact Num_nil w
  · have e : errV 47 c = .iface 47 (.int .i64 c) := by simp [errV, h]
    rw [e]; exact Num_some c w h
set_option maxHeartbeats 4000000 in
theorem FlowPlays_ct (tr un : Int) (C : Option Addr) (c : Nat) (ops : List FOp) (w : World) (hops : Rd w 11 cellO C ops) (hok : ∀ o ∈ ops, fopAt w o) (hcl : ops.length ≤ 9223372036854775807) (hbk : totF ops ≤ 1048576) : Calls Try.prog 5 #[.int .i64 tr, .int .i64 un, .slice C ops.length c] w fun e w' => e = .returned (.bool true) ∧ Fr w w' [] := by
  refine enterD (n := 229) Try.func5 rfl rfl (Nat.le_of_ble_eq_true rfl) ?_
  intro Q0 hN hret hret'
  have hC := Cx.start w
  refine WC.seq (fun K1 hK2 => ?_)
  refine WC.region ?_
  refine WL.runs 1 [(6, .bool false)] (fun _ => by kernel_rfl) ?_
  refine WL.done rfl ?_
  refine QX.then_normal (hK2 _ _ ?_)
  refine WC.seq (fun K3 hK4 => ?_)
  refine WC.seq (fun K5 hK6 => ?_)
  refine WC.region ?_
  refine WL.call rfl rfl rfl rfl rfl (by kernel_rfl) (alive_ct w) ?_
  rintro _ w8 ⟨rfl, hF7⟩
  refine ⟨_, rfl, ?_⟩
  have hC9 := hC.call hF7
  refine WL.runs 1 [(29, .bool false)] (fun _ => by kernel_rfl) ?_
  refine WL.done rfl ?_
  refine QX.then_normal (hK6 _ _ ?_)
  refine WC.cond_false rfl ?_
  refine WC.skip ?_
  refine QX.then_normal (hK4 _ _ ?_)
  refine WC.seq (fun K10 hK11 => ?_)
  refine WC.region ?_
  refine WL.runs 2 [(32, .int .i64 un), (31, .int .i64 tr)] (fun _ => by kernel_rfl) ?_
  rcases (show (tr < 0 ∨ 4096 < tr ∨ un < 0 ∨ 4096 < un) ∨ (0 ≤ tr ∧ tr ≤ 4096 ∧ 0 ≤ un ∧ un ≤ 4096) by omega) with hb12 | hb12
  · skip
    refine WL.call rfl rfl rfl rfl rfl (by kernel_rfl) (New_no tr un w8 hb12) ?_
    rintro _ w14 ⟨rfl, hF13⟩
    refine ⟨_, rfl, ?_⟩
    have hC15 := hC9.call hF13
    refine WL.runs 5 [(8, .iface 47 (.int .i64 4)), (7, .pointer none), (35, .iface 47 (.int .i64 4)), (34, .pointer none), (30, .tuple #[.pointer none, .iface 47 (.int .i64 4)])] (fun _ => by kernel_rfl) ?_
    refine WL.done rfl ?_
    refine QX.then_normal (hK11 _ _ ?_)
    refine WC.seq (fun K16 hK17 => ?_)
    refine WC.seq (fun K18 hK19 => ?_)
    refine WC.region ?_
    refine WL.runs 3 [(38, .bool (decide (tr < 0))), (37, .bool (decide (tr < 0))), (36, .int .i64 tr)] (fun _ => by kernel_rfl) ?_
    refine WL.test_at 38 (decide (tr < 0)) rfl (fun t20b => ?_) (fun t20b => ?_)
    · -- tr < 0: true
      have t20 : tr < 0 := by have q_ := of_decide_eq_true t20b; omega
      refine WL.runs 11 [(49, .bool true), (48, undef), (47, undef), (46, .bool true), (45, .bool true), (44, undef), (43, undef), (42, .bool true), (41, .bool true), (40, undef), (39, undef)] (fun _ => by kernel_rfl) ?_
      refine WL.done rfl ?_
      refine QX.then_normal (hK19 _ _ ?_)
      refine WC.cond_true rfl ?_
      refine WC.seq (fun K21 hK22 => ?_)
      refine WC.region ?_
      refine WL.runs 8 [(6, .bool true), (56, .bool true), (55, .bool true), (54, .iface 47 (.int .i64 4)), (53, .iface 47 (.int .i64 4)), (52, .bool true), (51, .bool true), (50, .pointer none)] (fun _ => by kernel_rfl) ?_
      refine WL.done rfl ?_
      refine QX.then_normal (hK22 _ _ ?_)
      refine WC.ret ?_
      refine QX.then_ret ?_
      refine (hret _ _ _ rfl ?_).1
      clear hN hret hret' hK22 hK19 hK17 hK11 hK6 hK4 hK2
      exact ⟨rfl, hC15.fr⟩
    · -- tr < 0: false
      have t20 : (0 : Int) ≤ tr := by have q_ := of_decide_eq_false t20b; omega
      refine WL.runs 4 [(42, .bool (decide (tr > 4096))), (41, .bool (decide (tr > 4096))), (40, .bool (decide (tr > 4096))), (39, .int .i64 tr)] (fun _ => by kernel_rfl) ?_
      refine WL.test_at 42 (decide (tr > 4096)) rfl (fun t23b => ?_) (fun t23b => ?_)
      · -- tr > 4096: true
        have t23 : (4096 : Int) < tr := by have q_ := of_decide_eq_true t23b; omega
        refine WL.runs 7 [(49, .bool true), (48, undef), (47, undef), (46, .bool true), (45, .bool true), (44, undef), (43, undef)] (fun _ => by kernel_rfl) ?_
        refine WL.done rfl ?_
        refine QX.then_normal (hK19 _ _ ?_)
        refine WC.cond_true rfl ?_
        refine WC.seq (fun K24 hK25 => ?_)
        refine WC.region ?_
        refine WL.runs 8 [(6, .bool true), (56, .bool true), (55, .bool true), (54, .iface 47 (.int .i64 4)), (53, .iface 47 (.int .i64 4)), (52, .bool true), (51, .bool true), (50, .pointer none)] (fun _ => by kernel_rfl) ?_
        refine WL.done rfl ?_
        refine QX.then_normal (hK25 _ _ ?_)
        refine WC.ret ?_
        refine QX.then_ret ?_
        refine (hret _ _ _ rfl ?_).1
        clear hN hret hret' hK25 hK19 hK17 hK11 hK6 hK4 hK2
        exact ⟨rfl, hC15.fr⟩
      · -- tr > 4096: false
        have t23 : tr ≤ 4096 := by have q_ := of_decide_eq_false t23b; omega
        refine WL.runs 4 [(46, .bool (decide (un < 0))), (45, .bool (decide (un < 0))), (44, .bool (decide (un < 0))), (43, .int .i64 un)] (fun _ => by kernel_rfl) ?_
        refine WL.test_at 46 (decide (un < 0)) rfl (fun t26b => ?_) (fun t26b => ?_)
        · -- un < 0: true
          have t26 : un < 0 := by have q_ := of_decide_eq_true t26b; omega
          refine WL.runs 3 [(49, .bool true), (48, undef), (47, undef)] (fun _ => by kernel_rfl) ?_
          refine WL.done rfl ?_
          refine QX.then_normal (hK19 _ _ ?_)
          refine WC.cond_true rfl ?_
          refine WC.seq (fun K27 hK28 => ?_)
          refine WC.region ?_
          refine WL.runs 8 [(6, .bool true), (56, .bool true), (55, .bool true), (54, .iface 47 (.int .i64 4)), (53, .iface 47 (.int .i64 4)), (52, .bool true), (51, .bool true), (50, .pointer none)] (fun _ => by kernel_rfl) ?_
          refine WL.done rfl ?_
          refine QX.then_normal (hK28 _ _ ?_)
          refine WC.ret ?_
          refine QX.then_ret ?_
          refine (hret _ _ _ rfl ?_).1
          clear hN hret hret' hK28 hK19 hK17 hK11 hK6 hK4 hK2
          exact ⟨rfl, hC15.fr⟩
        · -- un < 0: false
          have t26 : (0 : Int) ≤ un := by have q_ := of_decide_eq_false t26b; omega
          refine WL.runs 3 [(49, .bool (decide (un > 4096))), (48, .bool (decide (un > 4096))), (47, .int .i64 un)] (fun _ => by kernel_rfl) ?_
          refine WL.done rfl ?_
          refine QX.then_normal (hK19 _ _ ?_)
          refine WC.test_at 49 (decide (un > 4096)) rfl (fun t29b => ?_) (fun t29b => ?_)
          · -- un > 4096: true
            have t29 : (4096 : Int) < un := by have q_ := of_decide_eq_true t29b; omega
            refine WC.cond_true rfl ?_
            refine WC.seq (fun K30 hK31 => ?_)
            refine WC.region ?_
            refine WL.runs 8 [(6, .bool true), (56, .bool true), (55, .bool true), (54, .iface 47 (.int .i64 4)), (53, .iface 47 (.int .i64 4)), (52, .bool true), (51, .bool true), (50, .pointer none)] (fun _ => by kernel_rfl) ?_
            refine WL.done rfl ?_
            refine QX.then_normal (hK31 _ _ ?_)
            refine WC.ret ?_
            refine QX.then_ret ?_
            refine (hret _ _ _ rfl ?_).1
            clear hN hret hret' hK31 hK19 hK17 hK11 hK6 hK4 hK2
            exact ⟨rfl, hC15.fr⟩
          · -- un > 4096: false
            have t29 : un ≤ 4096 := by have q_ := of_decide_eq_false t29b; omega
            refine WC.cond_false rfl ?_
            refine WC.skip ?_
            refine QX.then_normal (hK17 _ _ ?_)
            refine WC.seq (fun K32 hK33 => ?_)
            refine WC.seq (fun K34 hK35 => ?_)
            refine WC.region ?_
            refine WL.runs 10 [(66, .bool true), (65, undef), (64, undef), (63, .bool true), (62, .bool true), (61, undef), (60, undef), (59, .bool true), (58, .bool true), (57, .iface 47 (.int .i64 4))] (fun _ => by kernel_rfl) ?_
            refine WL.done rfl ?_
            refine QX.then_normal (hK35 _ _ ?_)
            refine WC.cond_true rfl ?_
            refine WC.seq (fun K36 hK37 => ?_)
            refine WC.region ?_
            refine WL.runs 7 [(6, .bool false), (72, .bool false), (71, undef), (70, undef), (69, .bool false), (68, .bool false), (67, .iface 47 (.int .i64 4))] (fun _ => by kernel_rfl) ?_
            refine WL.done rfl ?_
            refine QX.then_normal (hK37 _ _ ?_)
            refine WC.ret ?_
            refine QX.then_ret ?_
            refine (hret _ _ _ rfl ?_).1
            clear hN hret hret' hK37 hK35 hK33 hK19 hK17 hK11 hK6 hK4 hK2
            exfalso; omega
  · obtain ⟨htr0_, htr1_, hun0_, hun1_⟩ := hb12
    refine WL.call rfl rfl rfl rfl rfl (by kernel_rfl) (New_ct tr un w8 (by omega) (by omega)) ?_
    rintro _ w41 ⟨p38, b39, rfl, hF40, hT43, hge44, hge45⟩
    have hC42 := hC9.callN hF40 (G := [p38, b39]) (fun x_ hx_ => by simp at hx_; rcases hx_ with rfl | rfl; exact hge44; exact hge45) (tbAt_lt hT43)
    refine ⟨_, rfl, ?_⟩
    have hok46 : TOk (⟨[], 0, tr, 0, un⟩ : Tb) := TOk.new (by omega) (by omega)
    have hms47 : (⟨[], 0, tr, 0, un⟩ : Tb).tm = tr ∧ (⟨[], 0, tr, 0, un⟩ : Tb).um = un := ⟨rfl, rfl⟩
    have hbd0_ : BdT (⟨[], 0, tr, 0, un⟩ : Tb) := fun _ h_ => nomatch h_
    refine WL.runs 5 [(8, .nilIface), (7, .pointer (some ⟨p38, 0, none⟩)), (35, .nilIface), (34, .pointer (some ⟨p38, 0, none⟩)), (30, .tuple #[.pointer (some ⟨p38, 0, none⟩), .nilIface])] (fun _ => by kernel_rfl) ?_
    refine WL.done rfl ?_
    refine QX.then_normal (hK11 _ _ ?_)
    refine WC.seq (fun K48 hK49 => ?_)
    refine WC.seq (fun K50 hK51 => ?_)
    refine WC.region ?_
    refine WL.runs 3 [(38, .bool (decide (tr < 0))), (37, .bool (decide (tr < 0))), (36, .int .i64 tr)] (fun _ => by kernel_rfl) ?_
    refine WL.know 38 (.bool (decide (tr < 0))) (.bool false) rfl (congrArg Value.bool (by exact decide_eq_false (by omega))) ?_
    refine WL.runs 4 [(42, .bool (decide (tr > 4096))), (41, .bool (decide (tr > 4096))), (40, .bool (decide (tr > 4096))), (39, .int .i64 tr)] (fun _ => by kernel_rfl) ?_
    refine WL.know 42 (.bool (decide (tr > 4096))) (.bool false) rfl (congrArg Value.bool (by exact decide_eq_false (by omega))) ?_
    refine WL.runs 4 [(46, .bool (decide (un < 0))), (45, .bool (decide (un < 0))), (44, .bool (decide (un < 0))), (43, .int .i64 un)] (fun _ => by kernel_rfl) ?_
    refine WL.know 46 (.bool (decide (un < 0))) (.bool false) rfl (congrArg Value.bool (by exact decide_eq_false (by omega))) ?_
    refine WL.runs 3 [(49, .bool (decide (un > 4096))), (48, .bool (decide (un > 4096))), (47, .int .i64 un)] (fun _ => by kernel_rfl) ?_
    refine WL.done rfl ?_
    refine QX.then_normal (hK51 _ _ ?_)
    refine WC.know 49 (.bool (decide (un > 4096))) (.bool false) rfl (congrArg Value.bool (by exact decide_eq_false (by omega))) ?_
    refine WC.cond_false rfl ?_
    refine WC.skip ?_
    refine QX.then_normal (hK49 _ _ ?_)
    refine WC.seq (fun K52 hK53 => ?_)
    refine WC.seq (fun K54 hK55 => ?_)
    refine WC.region ?_
    refine WL.runs 8 [(64, .slice C ops.length c), (63, .bool false), (62, .bool false), (61, .bool false), (60, .pointer (some ⟨p38, 0, none⟩)), (59, .bool false), (58, .bool false), (57, .nilIface)] (fun _ => by kernel_rfl) ?_
    refine WL.call rfl rfl rfl rfl rfl (by kernel_rfl) (long_ct C c ops w41 (Rd.fr hops hC42.fr) (fun o_ h_ => (hok o_ h_).fr hC42.fr) hcl) ?_
    rintro _ w58 ⟨b56, rfl, hF57⟩
    refine ⟨_, rfl, ?_⟩
    have hC59 := hC42.call hF57
    have hf60 := tbAt_fr hT43 hF57 (by simp)
    refine WL.runs 1 [(66, .bool b56)] (fun _ => by kernel_rfl) ?_
    refine WL.done rfl ?_
    refine QX.then_normal (hK55 _ _ ?_)
    refine WC.test_at 66 (b56) rfl (fun t61b => ?_) (fun t61b => ?_)
    · -- b56 = true: true
      refine WC.cond_true rfl ?_
      refine WC.seq (fun K62 hK63 => ?_)
      refine WC.region ?_
      refine WL.runs 7 [(6, .bool true), (72, .bool true), (71, .bool true), (70, .pointer (some ⟨p38, 0, none⟩)), (69, .bool true), (68, .bool true), (67, .nilIface)] (fun _ => by kernel_rfl) ?_
      refine WL.done rfl ?_
      refine QX.then_normal (hK63 _ _ ?_)
      refine WC.ret ?_
      refine QX.then_ret ?_
      refine (hret _ _ _ rfl ?_).1
      clear hN hret hret' hK63 hK55 hK53 hK51 hK49 hK11 hK6 hK4 hK2
      exact ⟨rfl, hC59.fr⟩
    · -- b56 = true: false
      refine WC.cond_false rfl ?_
      refine WC.skip ?_
      refine QX.then_normal (hK53 _ _ ?_)
      refine WC.seq (fun K64 hK65 => ?_)
      refine WC.region ?_
      refine WL.runs 3 [(75, .agg #[.slice none 0 0, .int .i64 tr, .int .i64 un]), (74, .int .i64 un), (73, .int .i64 tr)] (fun _ => by kernel_rfl) ?_
      refine WL.newM hC59 (fun b => .pointer (some ⟨b, 0, none⟩)) (.cells #[.slice none 0 0, .int .i64 tr, .int .i64 un] 51) 76 (fun _ => by kernel_rfl) (fun g66 w67 hb70 hF68 hC69 => ?_)
      have hf71 := tbAt_fr hf60 hF68 (by simp)
      have hC72 := hC69.addNil
      have hdf73 : dfAt w67 (g66 :: blk (.slice none 0 0)) g66 [] tr un := df_mk hC72 0 1 rfl rfl (own_nil w67 0 34 10)
      have hC74 := hC72.toF1 0 1 rfl rfl
      refine WL.runs 1 [(9, .pointer (some ⟨g66, 0, none⟩))] (fun _ => by kernel_rfl) ?_
      refine WL.done rfl ?_
      refine QX.then_normal (hK65 _ _ ?_)
      refine WC.seq (fun K75 hK76 => ?_)
      refine WC.seq (fun K77 hK78 => ?_)
      refine WC.region ?_
      refine WL.runs 3 [(79, .int .i64 0), (78, .int .i64 (ops.length : Int)), (77, .slice C ops.length c)] (fun _ => by kernel_rfl) ?_
      refine WL.done rfl ?_
      refine QX.then_normal (hK78 _ _ ?_)
      refine WC.block ?_
      refine WC.loop (fun m_ E_ w_ => ∃ (i : Nat) (T5 : Tb) (F5 : List Nat), m_ = ops.length - i ∧ E_ = [(0, .int .i64 tr), (1, .int .i64 un), (2, .slice C ops.length c), (7, .pointer (some ⟨p38, 0, none⟩)), (9, .pointer (some ⟨g66, 0, none⟩)), (77, .slice C ops.length c), (78, .int .i64 (ops.length : Int)), (79, .int .i64 (i : Int))] ∧ Cx w [] w_ [] [[p38, b39], F5] ∧ tbAt w_ p38 b39 T5 ∧ dfAt w_ F5 g66 (allE T5.m) tr un ∧ (i ≤ ops.length ∧ TOk T5 ∧ (T5.tm = tr ∧ T5.um = un) ∧ BdT T5)) ⟨_, _, ⟨0, (⟨[], 0, tr, 0, un⟩ : Tb), (g66 :: blk (.slice none 0 0)), rfl, rfl, hC74, hf71, (show dfAt _ _ _ (allE []) _ _ from by rw [show allE [] = ([] : List Ent) from by simp [allE, entsOf]]; exact hdf73), Nat.zero_le _, hok46, hms47, hbd0_⟩, sub_of ⟨rfl, rfl, rfl, rfl, rfl, rfl, rfl, rfl, trivial⟩⟩ (fun m82 E_ w83 K79 hK80 hI81 => ?_)
      obtain ⟨i, T5, F5, rfl, rfl, hC84, hT5, hD5, hi, hok5, hms5, hbd5⟩ := hI81
      refine WC.seq (fun K85 hK86 => ?_)
      refine WC.region ?_
      refine WL.runs 1 [(80, .bool (decide ((i : Int) < (ops.length : Int))))] (fun _ => by kernel_rfl) ?_
      refine WL.done rfl ?_
      refine QX.then_normal (hK86 _ _ ?_)
      refine WC.seq (fun K87 hK88 => ?_)
      refine WC.test_at 80 (decide ((i : Int) < (ops.length : Int))) rfl (fun t89b => ?_) (fun t89b => ?_)
      · -- (i : Int) < (ops.length : Int): true
        have t89 : (i : Int) < (ops.length : Int) := by have q_ := of_decide_eq_true t89b; omega
        refine WC.cond_true rfl ?_
        refine WC.skip ?_
        refine QX.then_normal (hK88 _ _ ?_)
        refine WC.seq (fun K90 hK91 => ?_)
        refine WC.block ?_
        refine WC.seq (fun K92 hK93 => ?_)
        refine WC.region ?_
        obtain ⟨e94, he95⟩ := get_some (xs := ops) (i := i) (by omega)
        obtain ⟨b96, o98, hA97, hc99⟩ := hops.at_ _ _ he95
        have hop_e94 := hok _ (List.mem_of_getElem? he95)
        have hle_e94 := hop_e94.len
        refine WL.index C ops.length c 81 .i64 (i : Int) b96 o98 i 11 (by kernel_rfl) hA97 (by omega) (by omega) (o98 + i * 11) (by first | (simp; done) | omega) ?_
        refine WL.load 53 (.pointer (some ⟨b96, o98 + i * 11, none⟩)) (.agg #[.int .i64 e94.kind, .int .i64 e94.flow.proto, .int .u32 e94.flow.src, .int .i64 e94.flow.sport, .int .u32 e94.flow.dst, .int .i64 e94.flow.dport, .slice e94.A e94.n e94.c, .int .u32 e94.dip, .int .i64 e94.ep, .int .i64 e94.flags, .int .i64 e94.now]) 82 (by kernel_rfl) (run_rdN (l := [.int .i64 e94.kind, .int .i64 e94.flow.proto, .int .u32 e94.flow.src, .int .i64 e94.flow.sport, .int .u32 e94.flow.dst, .int .i64 e94.flow.dport, .slice e94.A e94.n e94.c, .int .u32 e94.dip, .int .i64 e94.ep, .int .i64 e94.flags, .int .i64 e94.now]) rfl rfl (fun j u hu => by have hq_ := hC84.fr.cell (hc99 j u hu) (by simp); simpa [Nat.add_assoc] using hq_)) ?_
        have htm_ := totF_mem (List.mem_of_getElem? he95)
        have hcap_ := hop_e94.cap
        refine WL.newM hC84 (fun b => .pointer (some ⟨b, 0, none⟩)) (.cells #[.int .i64 0, .int .i64 0, .int .u32 0, .int .i64 0, .int .u32 0, .int .i64 0, .slice none 0 0, .int .u32 0, .int .i64 0, .int .i64 0, .int .i64 0] 53) 11 (fun _ => by kernel_rfl) (fun g100 w101 hb104 hF102 hC103 => ?_)
        have hf105 := tbAt_fr hT5 hF102 (by simp)
        have hf106 := dfAt_fr hD5 hF102 (by simp)
        refine WL.storeM (c' := #[.int .i64 e94.kind, .int .i64 e94.flow.proto, .int .u32 e94.flow.src, .int .i64 e94.flow.sport, .int .u32 e94.flow.dst, .int .i64 e94.flow.dport, .slice e94.A e94.n e94.c, .int .u32 e94.dip, .int .i64 e94.ep, .int .i64 e94.flags, .int .i64 e94.now]) hC103 0 53 g100 0 (.agg #[.int .i64 e94.kind, .int .i64 e94.flow.proto, .int .u32 e94.flow.src, .int .i64 e94.flow.sport, .int .u32 e94.flow.dst, .int .i64 e94.flow.dport, .slice e94.A e94.n e94.c, .int .u32 e94.dip, .int .i64 e94.ep, .int .i64 e94.flags, .int .i64 e94.now]) (by kernel_rfl) rfl (by kernel_rfl) (fun w107 hF109 hC110 => ?_)
        have hf111 := tbAt_fr hf105 hF109 (hC103.apartM 0 0 rfl rfl)
        have hf112 := dfAt_fr hf106 hF109 (hC103.apartM 1 0 rfl rfl)
        refine WL.done rfl ?_
        refine QX.then_normal (hK93 _ _ ?_)
        refine WC.seq (fun K113 hK114 => ?_)
        refine WC.region ?_
        refine WL.runs 1 [(12, .bool false)] (fun _ => by kernel_rfl) ?_
        refine WL.done rfl ?_
        refine QX.then_normal (hK114 _ _ ?_)
        refine WC.seqI (fun E_ w_ => ∃ (ok6 : Bool) (T6 : Tb) (F6 : List Nat), E_ = [(0, .int .i64 tr), (1, .int .i64 un), (2, .slice C ops.length c), (7, .pointer (some ⟨p38, 0, none⟩)), (9, .pointer (some ⟨g66, 0, none⟩)), (12, .bool ok6), (77, .slice C ops.length c), (78, .int .i64 (ops.length : Int)), (79, .int .i64 (i : Int))] ∧ Cx w [] w_ [(g100, .cells #[.int .i64 e94.kind, .int .i64 e94.flow.proto, .int .u32 e94.flow.src, .int .i64 e94.flow.sport, .int .u32 e94.flow.dst, .int .i64 e94.flow.dport, .slice e94.A e94.n e94.c, .int .u32 e94.dip, .int .i64 e94.ep, .int .i64 e94.flags, .int .i64 e94.now] 53)] [[p38, b39], F6] ∧ tbAt w_ p38 b39 T6 ∧ dfAt w_ F6 g66 (allE T6.m) tr un ∧ (ok6 = true ∧ TOk T6 ∧ (T6.tm = tr ∧ T6.um = un) ∧ BdT T6)) (fun K115 hK116 => ?_) ?_
        · skip
          refine WC.seq (fun K120 hK121 => ?_)
          refine WC.region ?_
          refine WL.runs 1 [(83, .pointer (some ⟨g100, 0, none⟩))] (fun _ => by kernel_rfl) ?_
          refine WL.load 3 (.pointer (some ⟨g100, 0, none⟩)) (.int .i64 e94.kind) 84 (by kernel_rfl) (run_ld (hC110.get 0 rfl) rfl) ?_
          refine WL.done rfl ?_
          refine QX.then_normal (hK121 _ _ ?_)
          refine WC.block ?_
          refine WC.seq (fun K122 hK123 => ?_)
          refine WC.region ?_
          refine WL.runs 2 [(94, .bool (e94.kind == 0)), (95, .bool (e94.kind == 0))] (fun _ => by kernel_rfl) ?_
          refine WL.done rfl ?_
          refine QX.then_normal (hK123 _ _ ?_)
          refine WC.test_at 94 (e94.kind == 0) rfl (fun t124b => ?_) (fun t124b => ?_)
          · -- e94.kind = 0: true
            have t124 : e94.kind = 0 := by simpa using t124b
            refine WC.cond_true rfl ?_
            refine WC.seq (fun K125 hK126 => ?_)
            refine WC.region ?_
            refine WL.runs 2 [(98, .pointer (some ⟨g100, 1, none⟩)), (97, .pointer (some ⟨p38, 0, none⟩))] (fun _ => by kernel_rfl) ?_
            refine WL.load 32 (.pointer (some ⟨g100, 1, none⟩)) (.agg #[.int .i64 e94.flow.proto, .int .u32 e94.flow.src, .int .i64 e94.flow.sport, .int .u32 e94.flow.dst, .int .i64 e94.flow.dport]) 99 (by kernel_rfl) (run_ld (hC110.get 0 rfl) rfl) ?_
            refine WL.runs 1 [(100, .pointer (some ⟨g100, 7, none⟩))] (fun _ => by kernel_rfl) ?_
            refine WL.load 30 (.pointer (some ⟨g100, 7, none⟩)) (.int .u32 e94.dip) 101 (by kernel_rfl) (run_ld (hC110.get 0 rfl) rfl) ?_
            refine WL.runs 1 [(102, .pointer (some ⟨g100, 8, none⟩))] (fun _ => by kernel_rfl) ?_
            refine WL.load 3 (.pointer (some ⟨g100, 8, none⟩)) (.int .i64 e94.ep) 103 (by kernel_rfl) (run_ld (hC110.get 0 rfl) rfl) ?_
            refine WL.runs 1 [(104, .pointer (some ⟨g100, 10, none⟩))] (fun _ => by kernel_rfl) ?_
            refine WL.load 3 (.pointer (some ⟨g100, 10, none⟩)) (.int .i64 e94.now) 105 (by kernel_rfl) (run_ld (hC110.get 0 rfl) rfl) ?_
            refine WL.call rfl rfl rfl rfl rfl (by kernel_rfl) (Put_ct p38 b39 T5 e94.flow e94.dip e94.ep e94.now w107 hf111 hok5.bth hok5.buh) ?_
            rintro _ w133 ⟨T127, o128, fd129, er130, rfl, hF132, hT135, hrel131⟩
            have hok136 := hok5.put (by rw [hms5.2]; omega) hrel131
            have hms137 := And.intro ((put_ms hrel131).1.trans hms5.1) ((put_ms hrel131).2.trans hms5.2)
            have hC134 := hC110.callF 0 rfl hF132 (fun _ hx_ => .inl hx_) (tbAt_lt hT135)
            refine ⟨_, rfl, ?_⟩
            have hf138 := dfAt_fr hf112 hF132 (hC110.disj 1 0 rfl rfl (by decide))
            have hbd139 : BdT T127 := BdT.putR hok5 hbd5 hop_e94.bd hrel131
            refine WL.runs 4 [(109, errV 47 er130), (108, .bool fd129), (107, .agg #[.int .i64 o128.flow.proto, .int .u32 o128.flow.src, .int .i64 o128.flow.sport, .int .u32 o128.flow.dst, .int .i64 o128.flow.dport, .int .u32 o128.dip, .int .i64 o128.epoch, .bool o128.trusted, .bool o128.closing, .int .i64 o128.last]), (96, .tuple #[.agg #[.int .i64 o128.flow.proto, .int .u32 o128.flow.src, .int .i64 o128.flow.sport, .int .u32 o128.flow.dst, .int .i64 o128.flow.dport, .int .u32 o128.dip, .int .i64 o128.epoch, .bool o128.trusted, .bool o128.closing, .int .i64 o128.last], .bool fd129, errV 47 er130])] (fun _ => by kernel_rfl) ?_
            refine WL.newM hC134 (fun b => .pointer (some ⟨b, 0, none⟩)) (.cells #[.int .i64 0, .int .u32 0, .int .i64 0, .int .u32 0, .int .i64 0, .int .u32 0, .int .i64 0, .bool false, .bool false, .int .i64 0] 34) 13 (fun _ => by kernel_rfl) (fun g140 w141 hb144 hF142 hC143 => ?_)
            have hf145 := tbAt_fr hT135 hF142 (by simp)
            have hf146 := dfAt_fr hf138 hF142 (by simp)
            refine WL.storeM (c' := #[.int .i64 o128.flow.proto, .int .u32 o128.flow.src, .int .i64 o128.flow.sport, .int .u32 o128.flow.dst, .int .i64 o128.flow.dport, .int .u32 o128.dip, .int .i64 o128.epoch, .bool o128.trusted, .bool o128.closing, .int .i64 o128.last]) hC143 1 34 g140 0 (.agg #[.int .i64 o128.flow.proto, .int .u32 o128.flow.src, .int .i64 o128.flow.sport, .int .u32 o128.flow.dst, .int .i64 o128.flow.dport, .int .u32 o128.dip, .int .i64 o128.epoch, .bool o128.trusted, .bool o128.closing, .int .i64 o128.last]) (by kernel_rfl) rfl (by kernel_rfl) (fun w147 hF149 hC150 => ?_)
            have hf151 := tbAt_fr hf145 hF149 (hC143.apartM 0 1 rfl rfl)
            have hf152 := dfAt_fr hf146 hF149 (hC143.apartM 1 1 rfl rfl)
            refine WL.runs 2 [(15, errV 47 er130), (14, .bool fd129)] (fun _ => by kernel_rfl) ?_
            refine WL.done rfl ?_
            refine QX.then_normal (hK126 _ _ ?_)
            refine WC.seq (fun K153 hK154 => ?_)
            refine WC.region ?_
            refine WL.runs 2 [(112, .pointer (some ⟨g100, 1, none⟩)), (111, .pointer (some ⟨g66, 0, none⟩))] (fun _ => by kernel_rfl) ?_
            refine WL.load 32 (.pointer (some ⟨g100, 1, none⟩)) (.agg #[.int .i64 e94.flow.proto, .int .u32 e94.flow.src, .int .i64 e94.flow.sport, .int .u32 e94.flow.dst, .int .i64 e94.flow.dport]) 113 (by kernel_rfl) (run_ld (hC150.get 0 rfl) rfl) ?_
            refine WL.runs 1 [(114, .pointer (some ⟨g100, 7, none⟩))] (fun _ => by kernel_rfl) ?_
            refine WL.load 30 (.pointer (some ⟨g100, 7, none⟩)) (.int .u32 e94.dip) 115 (by kernel_rfl) (run_ld (hC150.get 0 rfl) rfl) ?_
            refine WL.runs 1 [(116, .pointer (some ⟨g100, 8, none⟩))] (fun _ => by kernel_rfl) ?_
            refine WL.load 3 (.pointer (some ⟨g100, 8, none⟩)) (.int .i64 e94.ep) 117 (by kernel_rfl) (run_ld (hC150.get 0 rfl) rfl) ?_
            refine WL.runs 1 [(118, .pointer (some ⟨g100, 10, none⟩))] (fun _ => by kernel_rfl) ?_
            refine WL.load 3 (.pointer (some ⟨g100, 10, none⟩)) (.int .i64 e94.now) 119 (by kernel_rfl) (run_ld (hC150.get 0 rfl) rfl) ?_
            refine WL.call rfl rfl rfl rfl rfl (by kernel_rfl) (RPut_ct F5 g66 (allE T5.m) tr un e94.flow e94.dip e94.ep e94.now w147 hf152 hop_e94.bd (BdT.all hok5 hbd5) (Nat.le_trans (Nat.le_of_eq (allE_len _)) (Nat.le_trans hok5.bd.2.2 (by decide))) (by omega)) ?_
            rintro _ w161 ⟨L158, o155, fd156, er157, F164, rfl, hF160, hT163, hsub165, hr159⟩
            obtain ⟨h1_, h2_, h3_, h4_⟩ := link_put hok5 (by rw [hms5.2]; omega) hrel131 (by rw [hms5.2]; exact hr159)
            replace h1_ := h1_.symm
            replace h2_ := h2_.symm
            replace h3_ := h3_.symm
            subst h1_ h2_ h3_ h4_
            have hT163' : dfAt w161 F164 g66 (allE T127.m) tr un := hT163
            have hC162 := hC150.callF 1 rfl hF160 hsub165 (dfAt_lt hT163)
            refine ⟨_, rfl, ?_⟩
            have hf166 := tbAt_fr hf151 hF160 (hC150.disj 0 1 rfl rfl (by decide))
            refine WL.runs 4 [(123, .int .i64 er130), (122, .bool fd129), (121, .agg #[.int .i64 o128.flow.proto, .int .u32 o128.flow.src, .int .i64 o128.flow.sport, .int .u32 o128.flow.dst, .int .i64 o128.flow.dport, .int .u32 o128.dip, .int .i64 o128.epoch, .bool o128.trusted, .bool o128.closing, .int .i64 o128.last]), (110, .tuple #[.agg #[.int .i64 o128.flow.proto, .int .u32 o128.flow.src, .int .i64 o128.flow.sport, .int .u32 o128.flow.dst, .int .i64 o128.flow.dport, .int .u32 o128.dip, .int .i64 o128.epoch, .bool o128.trusted, .bool o128.closing, .int .i64 o128.last], .bool fd129, .int .i64 er130])] (fun _ => by kernel_rfl) ?_
            refine WL.newM hC162 (fun b => .pointer (some ⟨b, 0, none⟩)) (.cells #[.int .i64 0, .int .u32 0, .int .i64 0, .int .u32 0, .int .i64 0, .int .u32 0, .int .i64 0, .bool false, .bool false, .int .i64 0] 34) 16 (fun _ => by kernel_rfl) (fun g167 w168 hb171 hF169 hC170 => ?_)
            have hf172 := tbAt_fr hf166 hF169 (by simp)
            have hf173 := dfAt_fr hT163' hF169 (by simp)
            refine WL.storeM (c' := #[.int .i64 o128.flow.proto, .int .u32 o128.flow.src, .int .i64 o128.flow.sport, .int .u32 o128.flow.dst, .int .i64 o128.flow.dport, .int .u32 o128.dip, .int .i64 o128.epoch, .bool o128.trusted, .bool o128.closing, .int .i64 o128.last]) hC170 2 34 g167 0 (.agg #[.int .i64 o128.flow.proto, .int .u32 o128.flow.src, .int .i64 o128.flow.sport, .int .u32 o128.flow.dst, .int .i64 o128.flow.dport, .int .u32 o128.dip, .int .i64 o128.epoch, .bool o128.trusted, .bool o128.closing, .int .i64 o128.last]) (by kernel_rfl) rfl (by kernel_rfl) (fun w174 hF176 hC177 => ?_)
            have hf178 := tbAt_fr hf172 hF176 (hC170.apartM 0 2 rfl rfl)
            have hf179 := dfAt_fr hf173 hF176 (hC170.apartM 1 2 rfl rfl)
            refine WL.runs 2 [(18, .int .i64 er130), (17, .bool fd129)] (fun _ => by kernel_rfl) ?_
            refine WL.done rfl ?_
            refine QX.then_normal (hK154 _ _ ?_)
            refine WC.region ?_
            refine WL.load 34 (.pointer (some ⟨g140, 0, none⟩)) (.agg #[.int .i64 o128.flow.proto, .int .u32 o128.flow.src, .int .i64 o128.flow.sport, .int .u32 o128.flow.dst, .int .i64 o128.flow.dport, .int .u32 o128.dip, .int .i64 o128.epoch, .bool o128.trusted, .bool o128.closing, .int .i64 o128.last]) 124 (by kernel_rfl) (run_ld (hC177.get 1 rfl) rfl) ?_
            refine WL.load 34 (.pointer (some ⟨g167, 0, none⟩)) (.agg #[.int .i64 o128.flow.proto, .int .u32 o128.flow.src, .int .i64 o128.flow.sport, .int .u32 o128.flow.dst, .int .i64 o128.flow.dport, .int .u32 o128.dip, .int .i64 o128.epoch, .bool o128.trusted, .bool o128.closing, .int .i64 o128.last]) 125 (by kernel_rfl) (run_ld (hC177.get 2 rfl) rfl) ?_
            have hr180 : ∀ w_, Sem.run Try.prog (do eqGuard .eql 34 (Operand.tmp 124) (Operand.tmp 125) (.agg #[.int .i64 o128.flow.proto, .int .u32 o128.flow.src, .int .i64 o128.flow.sport, .int .u32 o128.flow.dst, .int .i64 o128.flow.dport, .int .u32 o128.dip, .int .i64 o128.epoch, .bool o128.trusted, .bool o128.closing, .int .i64 o128.last]) (.agg #[.int .i64 o128.flow.proto, .int .u32 o128.flow.src, .int .i64 o128.flow.sport, .int .u32 o128.flow.dst, .int .i64 o128.flow.dport, .int .u32 o128.dip, .int .i64 o128.epoch, .bool o128.trusted, .bool o128.closing, .int .i64 o128.last]); binOp .eql 34 (.agg #[.int .i64 o128.flow.proto, .int .u32 o128.flow.src, .int .i64 o128.flow.sport, .int .u32 o128.flow.dst, .int .i64 o128.flow.dport, .int .u32 o128.dip, .int .i64 o128.epoch, .bool o128.trusted, .bool o128.closing, .int .i64 o128.last]) (.agg #[.int .i64 o128.flow.proto, .int .u32 o128.flow.src, .int .i64 o128.flow.sport, .int .u32 o128.flow.dst, .int .i64 o128.flow.dport, .int .u32 o128.dip, .int .i64 o128.epoch, .bool o128.trusted, .bool o128.closing, .int .i64 o128.last])) w_ = .ok (.bool ((o128.flow.proto == o128.flow.proto && (o128.flow.src == o128.flow.src && (o128.flow.sport == o128.flow.sport && (o128.flow.dst == o128.flow.dst && (o128.flow.dport == o128.flow.dport && true))))) && (o128.dip == o128.dip && (o128.epoch == o128.epoch && (o128.trusted == o128.trusted && (o128.closing == o128.closing && (o128.last == o128.last && true))))))) w_ := fun w_ => (run_eql_N (by kernel_rfl) (by kernel_rfl))
            refine WL.sem (do eqGuard .eql 34 (Operand.tmp 124) (Operand.tmp 125) (.agg #[.int .i64 o128.flow.proto, .int .u32 o128.flow.src, .int .i64 o128.flow.sport, .int .u32 o128.flow.dst, .int .i64 o128.flow.dport, .int .u32 o128.dip, .int .i64 o128.epoch, .bool o128.trusted, .bool o128.closing, .int .i64 o128.last]) (.agg #[.int .i64 o128.flow.proto, .int .u32 o128.flow.src, .int .i64 o128.flow.sport, .int .u32 o128.flow.dst, .int .i64 o128.flow.dport, .int .u32 o128.dip, .int .i64 o128.epoch, .bool o128.trusted, .bool o128.closing, .int .i64 o128.last]); binOp .eql 34 (.agg #[.int .i64 o128.flow.proto, .int .u32 o128.flow.src, .int .i64 o128.flow.sport, .int .u32 o128.flow.dst, .int .i64 o128.flow.dport, .int .u32 o128.dip, .int .i64 o128.epoch, .bool o128.trusted, .bool o128.closing, .int .i64 o128.last]) (.agg #[.int .i64 o128.flow.proto, .int .u32 o128.flow.src, .int .i64 o128.flow.sport, .int .u32 o128.flow.dst, .int .i64 o128.flow.dport, .int .u32 o128.dip, .int .i64 o128.epoch, .bool o128.trusted, .bool o128.closing, .int .i64 o128.last])) 126 (.bool ((o128.flow.proto == o128.flow.proto && (o128.flow.src == o128.flow.src && (o128.flow.sport == o128.flow.sport && (o128.flow.dst == o128.flow.dst && (o128.flow.dport == o128.flow.dport && true))))) && (o128.dip == o128.dip && (o128.epoch == o128.epoch && (o128.trusted == o128.trusted && (o128.closing == o128.closing && (o128.last == o128.last && true))))))) (by kernel_rfl) (hr180 _) ?_
            refine WL.runs 1 [(127, .bool ((o128.flow.proto == o128.flow.proto && (o128.flow.src == o128.flow.src && (o128.flow.sport == o128.flow.sport && (o128.flow.dst == o128.flow.dst && (o128.flow.dport == o128.flow.dport && true))))) && (o128.dip == o128.dip && (o128.epoch == o128.epoch && (o128.trusted == o128.trusted && (o128.closing == o128.closing && (o128.last == o128.last && true)))))))] (fun _ => by kernel_rfl) ?_
            refine WL.know 127 (.bool ((o128.flow.proto == o128.flow.proto && (o128.flow.src == o128.flow.src && (o128.flow.sport == o128.flow.sport && (o128.flow.dst == o128.flow.dst && (o128.flow.dport == o128.flow.dport && true))))) && (o128.dip == o128.dip && (o128.epoch == o128.epoch && (o128.trusted == o128.trusted && (o128.closing == o128.closing && (o128.last == o128.last && true))))))) (.bool true) rfl (congrArg Value.bool (by simp)) ?_
            refine WL.runs 5 [(132, .bool (fd129 == fd129)), (131, .bool (fd129 == fd129)), (130, .bool (fd129 == fd129)), (129, .bool fd129), (128, .bool fd129)] (fun _ => by kernel_rfl) ?_
            refine WL.know 132 (.bool (fd129 == fd129)) (.bool true) rfl (congrArg Value.bool (by simp)) ?_
            refine WL.runs 1 [(133, errV 47 er130)] (fun _ => by kernel_rfl) ?_
            refine WL.call rfl rfl rfl rfl rfl (by kernel_rfl) (Num_ct er130 w174) ?_
            rintro _ w182 ⟨rfl, hF181⟩
            refine ⟨_, rfl, ?_⟩
            have hC183 := hC177.call hF181
            have hf184 := tbAt_fr hf178 hF181 (by simp)
            have hf185 := dfAt_fr hf179 hF181 (by simp)
            refine WL.runs 4 [(12, .bool (er130 == er130)), (137, .bool (er130 == er130)), (136, .bool (er130 == er130)), (135, .int .i64 er130)] (fun _ => by kernel_rfl) ?_
            refine WL.done rfl ?_
            refine QX.block_normal ?_
            refine QX.then_normal ?_
            have hC186 := hC183.pickM [0] [0, 1] (by decide) rfl rfl
            exact fun a_ ha_ => hK116 _ _ ⟨(er130 == er130), T127, F164, rfl, hC186, hf184, hf185, by first | rfl | (simp; done), hok136, hms137, hbd139⟩ a_ (ha_.weaken (sub_of ⟨rfl, rfl, rfl, rfl, rfl, rfl, rfl, rfl, rfl, trivial⟩))
          · -- e94.kind = 0: false
            have t124 : ¬ (e94.kind = 0) := by simpa using t124b
            refine WC.cond_false rfl ?_
            refine WC.seq (fun K187 hK188 => ?_)
            refine WC.region ?_
            refine WL.runs 2 [(138, .bool (e94.kind == 1)), (139, .bool (e94.kind == 1))] (fun _ => by kernel_rfl) ?_
            refine WL.done rfl ?_
            refine QX.then_normal (hK188 _ _ ?_)
            refine WC.test_at 138 (e94.kind == 1) rfl (fun t189b => ?_) (fun t189b => ?_)
            · -- e94.kind = 1: true
              have t189 : e94.kind = 1 := by simpa using t189b
              refine WC.cond_true rfl ?_
              refine WC.drawC hC110 ([p38, b39] ++ F5) (by kernel_rfl) (fun w190 hF191 hC192 hS193 => ?_)
              have hf194 := tbAt_fr hf111 hF191 (by simp)
              have hf195 := dfAt_fr hf112 hF191 (by simp)
              refine WD.pure (NoPanic.block (NoPanic.then (NoPanic.block (NoPanic.then (NoPanic.then (NoPanic.block (NoPanic.then hN))))))) 0 140 (.pointer (some ⟨p38, 0, none⟩)) (by kernel_rfl) (fun _ => by kernel_rfl) hS193 ?_
              refine WD.pure (NoPanic.block (NoPanic.then (NoPanic.block (NoPanic.then (NoPanic.then (NoPanic.block (NoPanic.then hN))))))) 1 141 (.pointer (some ⟨g100, 1, none⟩)) (by kernel_rfl) (fun _ => by kernel_rfl) hS193 ?_
              refine WD.pure (NoPanic.block (NoPanic.then (NoPanic.block (NoPanic.then (NoPanic.then (NoPanic.block (NoPanic.then hN))))))) 3 143 (.pointer (some ⟨g100, 9, none⟩)) (by kernel_rfl) (fun _ => by kernel_rfl) hS193 ?_
              refine WD.pure (NoPanic.block (NoPanic.then (NoPanic.block (NoPanic.then (NoPanic.then (NoPanic.block (NoPanic.then hN))))))) 5 145 (.pointer (some ⟨g100, 10, none⟩)) (by kernel_rfl) (fun _ => by kernel_rfl) hS193 ?_
              refine WD.pure (NoPanic.block (NoPanic.then (NoPanic.block (NoPanic.then (NoPanic.then (NoPanic.block (NoPanic.then hN))))))) 8 148 (.pointer (some ⟨g66, 0, none⟩)) (by kernel_rfl) (fun _ => by kernel_rfl) hS193 ?_
              refine WD.pure (NoPanic.block (NoPanic.then (NoPanic.block (NoPanic.then (NoPanic.then (NoPanic.block (NoPanic.then hN))))))) 9 149 (.pointer (some ⟨g100, 1, none⟩)) (by kernel_rfl) (fun _ => by kernel_rfl) hS193 ?_
              refine WD.pure (NoPanic.block (NoPanic.then (NoPanic.block (NoPanic.then (NoPanic.then (NoPanic.block (NoPanic.then hN))))))) 11 151 (.pointer (some ⟨g100, 9, none⟩)) (by kernel_rfl) (fun _ => by kernel_rfl) hS193 ?_
              refine WD.pure (NoPanic.block (NoPanic.then (NoPanic.block (NoPanic.then (NoPanic.then (NoPanic.block (NoPanic.then hN))))))) 13 153 (.pointer (some ⟨g100, 10, none⟩)) (by kernel_rfl) (fun _ => by kernel_rfl) hS193 ?_
              refine WD.load (NoPanic.block (NoPanic.then (NoPanic.block (NoPanic.then (NoPanic.then (NoPanic.block (NoPanic.then hN))))))) 2 32 (.pointer (some ⟨g100, 1, none⟩)) (.agg #[.int .i64 e94.flow.proto, .int .u32 e94.flow.src, .int .i64 e94.flow.sport, .int .u32 e94.flow.dst, .int .i64 e94.flow.dport]) 142 (by kernel_rfl) (by kernel_rfl) (fun _ hS_ => run_ld (Fr.has hS_ (hC192.get 0 rfl) (fun h_ => (List.mem_append.1 h_).elim (hC192.notin 0 0 rfl rfl) (hC192.notin 1 0 rfl rfl))) rfl) hS193 ?_
              refine WD.load (NoPanic.block (NoPanic.then (NoPanic.block (NoPanic.then (NoPanic.then (NoPanic.block (NoPanic.then hN))))))) 4 3 (.pointer (some ⟨g100, 9, none⟩)) (.int .i64 e94.flags) 144 (by kernel_rfl) (by kernel_rfl) (fun _ hS_ => run_ld (Fr.has hS_ (hC192.get 0 rfl) (fun h_ => (List.mem_append.1 h_).elim (hC192.notin 0 0 rfl rfl) (hC192.notin 1 0 rfl rfl))) rfl) hS193 ?_
              refine WD.load (NoPanic.block (NoPanic.then (NoPanic.block (NoPanic.then (NoPanic.then (NoPanic.block (NoPanic.then hN))))))) 6 3 (.pointer (some ⟨g100, 10, none⟩)) (.int .i64 e94.now) 146 (by kernel_rfl) (by kernel_rfl) (fun _ hS_ => run_ld (Fr.has hS_ (hC192.get 0 rfl) (fun h_ => (List.mem_append.1 h_).elim (hC192.notin 0 0 rfl rfl) (hC192.notin 1 0 rfl rfl))) rfl) hS193 ?_
              refine WD.load (NoPanic.block (NoPanic.then (NoPanic.block (NoPanic.then (NoPanic.then (NoPanic.block (NoPanic.then hN))))))) 10 32 (.pointer (some ⟨g100, 1, none⟩)) (.agg #[.int .i64 e94.flow.proto, .int .u32 e94.flow.src, .int .i64 e94.flow.sport, .int .u32 e94.flow.dst, .int .i64 e94.flow.dport]) 150 (by kernel_rfl) (by kernel_rfl) (fun _ hS_ => run_ld (Fr.has hS_ (hC192.get 0 rfl) (fun h_ => (List.mem_append.1 h_).elim (hC192.notin 0 0 rfl rfl) (hC192.notin 1 0 rfl rfl))) rfl) hS193 ?_
              refine WD.load (NoPanic.block (NoPanic.then (NoPanic.block (NoPanic.then (NoPanic.then (NoPanic.block (NoPanic.then hN))))))) 12 3 (.pointer (some ⟨g100, 9, none⟩)) (.int .i64 e94.flags) 152 (by kernel_rfl) (by kernel_rfl) (fun _ hS_ => run_ld (Fr.has hS_ (hC192.get 0 rfl) (fun h_ => (List.mem_append.1 h_).elim (hC192.notin 0 0 rfl rfl) (hC192.notin 1 0 rfl rfl))) rfl) hS193 ?_
              refine WD.load (NoPanic.block (NoPanic.then (NoPanic.block (NoPanic.then (NoPanic.then (NoPanic.block (NoPanic.then hN))))))) 14 3 (.pointer (some ⟨g100, 10, none⟩)) (.int .i64 e94.now) 154 (by kernel_rfl) (by kernel_rfl) (fun _ hS_ => run_ld (Fr.has hS_ (hC192.get 0 rfl) (fun h_ => (List.mem_append.1 h_).elim (hC192.notin 0 0 rfl rfl) (hC192.notin 1 0 rfl rfl))) rfl) hS193 ?_
              refine WD.call 7 (by kernel_rfl) rfl rfl rfl rfl rfl (by kernel_rfl) (Touch_ct p38 b39 T5 e94.flow e94.flags e94.now w190 hf194 hok5.bth hok5.buh) ?_
              rintro _ w197 ⟨rfl, hF196, hT199⟩
              have hok200 := hok5.touch e94.flow e94.flags e94.now
              have hms201 := And.intro ((touch_ms T5 e94.flow e94.flags e94.now).1.trans hms5.1) ((touch_ms T5 e94.flow e94.flags e94.now).2.trans hms5.2)
              have hC198 := hC192.callF 0 rfl hF196 (fun _ hx_ => .inl hx_) (tbAt_lt hT199)
              have hS202 := hS193.trans hF196 (fun x_ hx_ => .inl (List.mem_append.2 (.inl hx_)))
              refine ⟨_, rfl, hS202, ?_⟩
              have hf203 := dfAt_fr hf195 hF196 (hC192.disj 1 0 rfl rfl (by decide))
              have hbd204 : BdT ((touchT T5 e94.flow e94.flags e94.now).1) := BdT.touch hok5 hbd5 e94.flow e94.flags e94.now
              refine WD.call 15 (by kernel_rfl) rfl rfl rfl rfl rfl (by kernel_rfl) (RTouch_ct F5 g66 (allE T5.m) tr un e94.flow e94.flags e94.now w197 hf203) ?_
              rintro _ w209 ⟨L205, fd206, F212, rfl, hF208, hT211, hsub213, hr207⟩
              obtain ⟨h1_, h2_⟩ := link_touch hok5 (by rw [hms5.1]; exact hr207)
              subst h1_ h2_
              have hT211' : dfAt w209 F212 g66 (allE ((touchT T5 e94.flow e94.flags e94.now).1).m) tr un := hT211
              have hC210 := hC198.callF 1 rfl hF208 hsub213 (dfAt_lt hT211)
              have hS214 := hS202.trans hF208 (fun x_ hx_ => .inl (List.mem_append.2 (.inr hx_)))
              refine ⟨_, rfl, hS214, ?_⟩
              have hf215 := tbAt_fr hT199 hF208 (hC198.disj 0 1 rfl rfl (by decide))
              refine WD.pure (NoPanic.block (NoPanic.then (NoPanic.block (NoPanic.then (NoPanic.then (NoPanic.block (NoPanic.then hN))))))) 16 156 (.bool (((touchT T5 e94.flow e94.flags e94.now).2) == ((touchT T5 e94.flow e94.flags e94.now).2))) (by kernel_rfl) (fun _ => by kernel_rfl) hS214 ?_
              refine WD.pure (NoPanic.block (NoPanic.then (NoPanic.block (NoPanic.then (NoPanic.then (NoPanic.block (NoPanic.then hN))))))) 17 12 (.bool (((touchT T5 e94.flow e94.flags e94.now).2) == ((touchT T5 e94.flow e94.flags e94.now).2))) (by kernel_rfl) (fun _ => by kernel_rfl) hS214 ?_
              refine WD.done (by kernel_rfl) ?_
              refine QX.block_normal ?_
              refine QX.then_normal ?_
              have hC216 := hC210.pickM [0] [0, 1] (by decide) rfl rfl
              exact fun a_ ha_ => hK116 _ _ ⟨(((touchT T5 e94.flow e94.flags e94.now).2) == ((touchT T5 e94.flow e94.flags e94.now).2)), (touchT T5 e94.flow e94.flags e94.now).1, F212, rfl, hC216, hf215, hT211', by first | rfl | (simp; done), hok200, hms201, hbd204⟩ a_ (ha_.weaken (sub_of ⟨rfl, rfl, rfl, rfl, rfl, rfl, rfl, rfl, rfl, trivial⟩))
            · -- e94.kind = 1: false
              have t189 : ¬ (e94.kind = 1) := by simpa using t189b
              refine WC.cond_false rfl ?_
              refine WC.seq (fun K217 hK218 => ?_)
              refine WC.region ?_
              refine WL.runs 2 [(157, .bool (e94.kind == 2)), (158, .bool (e94.kind == 2))] (fun _ => by kernel_rfl) ?_
              refine WL.done rfl ?_
              refine QX.then_normal (hK218 _ _ ?_)
              refine WC.test_at 157 (e94.kind == 2) rfl (fun t219b => ?_) (fun t219b => ?_)
              · -- e94.kind = 2: true
                have t219 : e94.kind = 2 := by simpa using t219b
                refine WC.cond_true rfl ?_
                refine WC.seq (fun K220 hK221 => ?_)
                refine WC.region ?_
                refine WL.runs 2 [(161, .pointer (some ⟨g100, 1, none⟩)), (160, .pointer (some ⟨p38, 0, none⟩))] (fun _ => by kernel_rfl) ?_
                refine WL.load 32 (.pointer (some ⟨g100, 1, none⟩)) (.agg #[.int .i64 e94.flow.proto, .int .u32 e94.flow.src, .int .i64 e94.flow.sport, .int .u32 e94.flow.dst, .int .i64 e94.flow.dport]) 162 (by kernel_rfl) (run_ld (hC110.get 0 rfl) rfl) ?_
                refine WL.call rfl rfl rfl rfl rfl (by kernel_rfl) (Get_ct p38 b39 T5 e94.flow w107 hf111) ?_
                rintro _ w223 ⟨rfl, hF222⟩
                refine ⟨_, rfl, ?_⟩
                have hC224 := hC110.call hF222
                have hf225 := tbAt_fr hf111 hF222 (by simp)
                have hf226 := dfAt_fr hf112 hF222 (by simp)
                refine WL.runs 3 [(165, .bool ((lookL T5.m e94.flow).isSome)), (164, .agg #[.int .i64 (((lookL T5.m e94.flow).getD zeroE).flow.proto), .int .u32 (((lookL T5.m e94.flow).getD zeroE).flow.src), .int .i64 (((lookL T5.m e94.flow).getD zeroE).flow.sport), .int .u32 (((lookL T5.m e94.flow).getD zeroE).flow.dst), .int .i64 (((lookL T5.m e94.flow).getD zeroE).flow.dport), .int .u32 (((lookL T5.m e94.flow).getD zeroE).dip), .int .i64 (((lookL T5.m e94.flow).getD zeroE).epoch), .bool (((lookL T5.m e94.flow).getD zeroE).trusted), .bool (((lookL T5.m e94.flow).getD zeroE).closing), .int .i64 (((lookL T5.m e94.flow).getD zeroE).last)]), (159, .tuple #[.agg #[.int .i64 (((lookL T5.m e94.flow).getD zeroE).flow.proto), .int .u32 (((lookL T5.m e94.flow).getD zeroE).flow.src), .int .i64 (((lookL T5.m e94.flow).getD zeroE).flow.sport), .int .u32 (((lookL T5.m e94.flow).getD zeroE).flow.dst), .int .i64 (((lookL T5.m e94.flow).getD zeroE).flow.dport), .int .u32 (((lookL T5.m e94.flow).getD zeroE).dip), .int .i64 (((lookL T5.m e94.flow).getD zeroE).epoch), .bool (((lookL T5.m e94.flow).getD zeroE).trusted), .bool (((lookL T5.m e94.flow).getD zeroE).closing), .int .i64 (((lookL T5.m e94.flow).getD zeroE).last)], .bool ((lookL T5.m e94.flow).isSome)])] (fun _ => by kernel_rfl) ?_
                refine WL.newM hC224 (fun b => .pointer (some ⟨b, 0, none⟩)) (.cells #[.int .i64 0, .int .u32 0, .int .i64 0, .int .u32 0, .int .i64 0, .int .u32 0, .int .i64 0, .bool false, .bool false, .int .i64 0] 34) 19 (fun _ => by kernel_rfl) (fun g227 w228 hb231 hF229 hC230 => ?_)
                have hf232 := tbAt_fr hf225 hF229 (by simp)
                have hf233 := dfAt_fr hf226 hF229 (by simp)
                refine WL.storeM (c' := #[.int .i64 (((lookL T5.m e94.flow).getD zeroE).flow.proto), .int .u32 (((lookL T5.m e94.flow).getD zeroE).flow.src), .int .i64 (((lookL T5.m e94.flow).getD zeroE).flow.sport), .int .u32 (((lookL T5.m e94.flow).getD zeroE).flow.dst), .int .i64 (((lookL T5.m e94.flow).getD zeroE).flow.dport), .int .u32 (((lookL T5.m e94.flow).getD zeroE).dip), .int .i64 (((lookL T5.m e94.flow).getD zeroE).epoch), .bool (((lookL T5.m e94.flow).getD zeroE).trusted), .bool (((lookL T5.m e94.flow).getD zeroE).closing), .int .i64 (((lookL T5.m e94.flow).getD zeroE).last)]) hC230 1 34 g227 0 (.agg #[.int .i64 (((lookL T5.m e94.flow).getD zeroE).flow.proto), .int .u32 (((lookL T5.m e94.flow).getD zeroE).flow.src), .int .i64 (((lookL T5.m e94.flow).getD zeroE).flow.sport), .int .u32 (((lookL T5.m e94.flow).getD zeroE).flow.dst), .int .i64 (((lookL T5.m e94.flow).getD zeroE).flow.dport), .int .u32 (((lookL T5.m e94.flow).getD zeroE).dip), .int .i64 (((lookL T5.m e94.flow).getD zeroE).epoch), .bool (((lookL T5.m e94.flow).getD zeroE).trusted), .bool (((lookL T5.m e94.flow).getD zeroE).closing), .int .i64 (((lookL T5.m e94.flow).getD zeroE).last)]) (by kernel_rfl) rfl (by kernel_rfl) (fun w234 hF236 hC237 => ?_)
                have hf238 := tbAt_fr hf232 hF236 (hC230.apartM 0 1 rfl rfl)
                have hf239 := dfAt_fr hf233 hF236 (hC230.apartM 1 1 rfl rfl)
                refine WL.runs 1 [(20, .bool ((lookL T5.m e94.flow).isSome))] (fun _ => by kernel_rfl) ?_
                refine WL.done rfl ?_
                refine QX.then_normal (hK221 _ _ ?_)
                refine WC.seq (fun K240 hK241 => ?_)
                refine WC.region ?_
                refine WL.runs 2 [(168, .pointer (some ⟨g100, 1, none⟩)), (167, .pointer (some ⟨g66, 0, none⟩))] (fun _ => by kernel_rfl) ?_
                refine WL.load 32 (.pointer (some ⟨g100, 1, none⟩)) (.agg #[.int .i64 e94.flow.proto, .int .u32 e94.flow.src, .int .i64 e94.flow.sport, .int .u32 e94.flow.dst, .int .i64 e94.flow.dport]) 169 (by kernel_rfl) (run_ld (hC237.get 0 rfl) rfl) ?_
                refine WL.call rfl rfl rfl rfl rfl (by kernel_rfl) (RGet_ct F5 g66 (allE T5.m) tr un e94.flow w234 hf239) ?_
                rintro _ w246 ⟨o242, fd243, rfl, hF245, hr244⟩
                obtain ⟨h1_, h2_⟩ := link_get hok5 hr244
                subst h1_ h2_
                have hC247 := hC237.call hF245
                refine ⟨_, rfl, ?_⟩
                have hf248 := tbAt_fr hf238 hF245 (by simp)
                have hf249 := dfAt_fr hf239 hF245 (by simp)
                refine WL.runs 3 [(172, .bool ((lookL T5.m e94.flow).isSome)), (171, .agg #[.int .i64 (((lookL T5.m e94.flow).getD zeroE).flow.proto), .int .u32 (((lookL T5.m e94.flow).getD zeroE).flow.src), .int .i64 (((lookL T5.m e94.flow).getD zeroE).flow.sport), .int .u32 (((lookL T5.m e94.flow).getD zeroE).flow.dst), .int .i64 (((lookL T5.m e94.flow).getD zeroE).flow.dport), .int .u32 (((lookL T5.m e94.flow).getD zeroE).dip), .int .i64 (((lookL T5.m e94.flow).getD zeroE).epoch), .bool (((lookL T5.m e94.flow).getD zeroE).trusted), .bool (((lookL T5.m e94.flow).getD zeroE).closing), .int .i64 (((lookL T5.m e94.flow).getD zeroE).last)]), (166, .tuple #[.agg #[.int .i64 (((lookL T5.m e94.flow).getD zeroE).flow.proto), .int .u32 (((lookL T5.m e94.flow).getD zeroE).flow.src), .int .i64 (((lookL T5.m e94.flow).getD zeroE).flow.sport), .int .u32 (((lookL T5.m e94.flow).getD zeroE).flow.dst), .int .i64 (((lookL T5.m e94.flow).getD zeroE).flow.dport), .int .u32 (((lookL T5.m e94.flow).getD zeroE).dip), .int .i64 (((lookL T5.m e94.flow).getD zeroE).epoch), .bool (((lookL T5.m e94.flow).getD zeroE).trusted), .bool (((lookL T5.m e94.flow).getD zeroE).closing), .int .i64 (((lookL T5.m e94.flow).getD zeroE).last)], .bool ((lookL T5.m e94.flow).isSome)])] (fun _ => by kernel_rfl) ?_
                refine WL.newM hC247 (fun b => .pointer (some ⟨b, 0, none⟩)) (.cells #[.int .i64 0, .int .u32 0, .int .i64 0, .int .u32 0, .int .i64 0, .int .u32 0, .int .i64 0, .bool false, .bool false, .int .i64 0] 34) 21 (fun _ => by kernel_rfl) (fun g250 w251 hb254 hF252 hC253 => ?_)
                have hf255 := tbAt_fr hf248 hF252 (by simp)
                have hf256 := dfAt_fr hf249 hF252 (by simp)
                refine WL.storeM (c' := #[.int .i64 (((lookL T5.m e94.flow).getD zeroE).flow.proto), .int .u32 (((lookL T5.m e94.flow).getD zeroE).flow.src), .int .i64 (((lookL T5.m e94.flow).getD zeroE).flow.sport), .int .u32 (((lookL T5.m e94.flow).getD zeroE).flow.dst), .int .i64 (((lookL T5.m e94.flow).getD zeroE).flow.dport), .int .u32 (((lookL T5.m e94.flow).getD zeroE).dip), .int .i64 (((lookL T5.m e94.flow).getD zeroE).epoch), .bool (((lookL T5.m e94.flow).getD zeroE).trusted), .bool (((lookL T5.m e94.flow).getD zeroE).closing), .int .i64 (((lookL T5.m e94.flow).getD zeroE).last)]) hC253 2 34 g250 0 (.agg #[.int .i64 (((lookL T5.m e94.flow).getD zeroE).flow.proto), .int .u32 (((lookL T5.m e94.flow).getD zeroE).flow.src), .int .i64 (((lookL T5.m e94.flow).getD zeroE).flow.sport), .int .u32 (((lookL T5.m e94.flow).getD zeroE).flow.dst), .int .i64 (((lookL T5.m e94.flow).getD zeroE).flow.dport), .int .u32 (((lookL T5.m e94.flow).getD zeroE).dip), .int .i64 (((lookL T5.m e94.flow).getD zeroE).epoch), .bool (((lookL T5.m e94.flow).getD zeroE).trusted), .bool (((lookL T5.m e94.flow).getD zeroE).closing), .int .i64 (((lookL T5.m e94.flow).getD zeroE).last)]) (by kernel_rfl) rfl (by kernel_rfl) (fun w257 hF259 hC260 => ?_)
                have hf261 := tbAt_fr hf255 hF259 (hC253.apartM 0 2 rfl rfl)
                have hf262 := dfAt_fr hf256 hF259 (hC253.apartM 1 2 rfl rfl)
                refine WL.runs 1 [(22, .bool ((lookL T5.m e94.flow).isSome))] (fun _ => by kernel_rfl) ?_
                refine WL.done rfl ?_
                refine QX.then_normal (hK241 _ _ ?_)
                refine WC.region ?_
                refine WL.load 34 (.pointer (some ⟨g227, 0, none⟩)) (.agg #[.int .i64 (((lookL T5.m e94.flow).getD zeroE).flow.proto), .int .u32 (((lookL T5.m e94.flow).getD zeroE).flow.src), .int .i64 (((lookL T5.m e94.flow).getD zeroE).flow.sport), .int .u32 (((lookL T5.m e94.flow).getD zeroE).flow.dst), .int .i64 (((lookL T5.m e94.flow).getD zeroE).flow.dport), .int .u32 (((lookL T5.m e94.flow).getD zeroE).dip), .int .i64 (((lookL T5.m e94.flow).getD zeroE).epoch), .bool (((lookL T5.m e94.flow).getD zeroE).trusted), .bool (((lookL T5.m e94.flow).getD zeroE).closing), .int .i64 (((lookL T5.m e94.flow).getD zeroE).last)]) 173 (by kernel_rfl) (run_ld (hC260.get 1 rfl) rfl) ?_
                refine WL.load 34 (.pointer (some ⟨g250, 0, none⟩)) (.agg #[.int .i64 (((lookL T5.m e94.flow).getD zeroE).flow.proto), .int .u32 (((lookL T5.m e94.flow).getD zeroE).flow.src), .int .i64 (((lookL T5.m e94.flow).getD zeroE).flow.sport), .int .u32 (((lookL T5.m e94.flow).getD zeroE).flow.dst), .int .i64 (((lookL T5.m e94.flow).getD zeroE).flow.dport), .int .u32 (((lookL T5.m e94.flow).getD zeroE).dip), .int .i64 (((lookL T5.m e94.flow).getD zeroE).epoch), .bool (((lookL T5.m e94.flow).getD zeroE).trusted), .bool (((lookL T5.m e94.flow).getD zeroE).closing), .int .i64 (((lookL T5.m e94.flow).getD zeroE).last)]) 174 (by kernel_rfl) (run_ld (hC260.get 2 rfl) rfl) ?_
                have hr263 : ∀ w_, Sem.run Try.prog (do eqGuard .eql 34 (Operand.tmp 173) (Operand.tmp 174) (.agg #[.int .i64 (((lookL T5.m e94.flow).getD zeroE).flow.proto), .int .u32 (((lookL T5.m e94.flow).getD zeroE).flow.src), .int .i64 (((lookL T5.m e94.flow).getD zeroE).flow.sport), .int .u32 (((lookL T5.m e94.flow).getD zeroE).flow.dst), .int .i64 (((lookL T5.m e94.flow).getD zeroE).flow.dport), .int .u32 (((lookL T5.m e94.flow).getD zeroE).dip), .int .i64 (((lookL T5.m e94.flow).getD zeroE).epoch), .bool (((lookL T5.m e94.flow).getD zeroE).trusted), .bool (((lookL T5.m e94.flow).getD zeroE).closing), .int .i64 (((lookL T5.m e94.flow).getD zeroE).last)]) (.agg #[.int .i64 (((lookL T5.m e94.flow).getD zeroE).flow.proto), .int .u32 (((lookL T5.m e94.flow).getD zeroE).flow.src), .int .i64 (((lookL T5.m e94.flow).getD zeroE).flow.sport), .int .u32 (((lookL T5.m e94.flow).getD zeroE).flow.dst), .int .i64 (((lookL T5.m e94.flow).getD zeroE).flow.dport), .int .u32 (((lookL T5.m e94.flow).getD zeroE).dip), .int .i64 (((lookL T5.m e94.flow).getD zeroE).epoch), .bool (((lookL T5.m e94.flow).getD zeroE).trusted), .bool (((lookL T5.m e94.flow).getD zeroE).closing), .int .i64 (((lookL T5.m e94.flow).getD zeroE).last)]); binOp .eql 34 (.agg #[.int .i64 (((lookL T5.m e94.flow).getD zeroE).flow.proto), .int .u32 (((lookL T5.m e94.flow).getD zeroE).flow.src), .int .i64 (((lookL T5.m e94.flow).getD zeroE).flow.sport), .int .u32 (((lookL T5.m e94.flow).getD zeroE).flow.dst), .int .i64 (((lookL T5.m e94.flow).getD zeroE).flow.dport), .int .u32 (((lookL T5.m e94.flow).getD zeroE).dip), .int .i64 (((lookL T5.m e94.flow).getD zeroE).epoch), .bool (((lookL T5.m e94.flow).getD zeroE).trusted), .bool (((lookL T5.m e94.flow).getD zeroE).closing), .int .i64 (((lookL T5.m e94.flow).getD zeroE).last)]) (.agg #[.int .i64 (((lookL T5.m e94.flow).getD zeroE).flow.proto), .int .u32 (((lookL T5.m e94.flow).getD zeroE).flow.src), .int .i64 (((lookL T5.m e94.flow).getD zeroE).flow.sport), .int .u32 (((lookL T5.m e94.flow).getD zeroE).flow.dst), .int .i64 (((lookL T5.m e94.flow).getD zeroE).flow.dport), .int .u32 (((lookL T5.m e94.flow).getD zeroE).dip), .int .i64 (((lookL T5.m e94.flow).getD zeroE).epoch), .bool (((lookL T5.m e94.flow).getD zeroE).trusted), .bool (((lookL T5.m e94.flow).getD zeroE).closing), .int .i64 (((lookL T5.m e94.flow).getD zeroE).last)])) w_ = .ok (.bool (((((lookL T5.m e94.flow).getD zeroE).flow.proto) == (((lookL T5.m e94.flow).getD zeroE).flow.proto) && ((((lookL T5.m e94.flow).getD zeroE).flow.src) == (((lookL T5.m e94.flow).getD zeroE).flow.src) && ((((lookL T5.m e94.flow).getD zeroE).flow.sport) == (((lookL T5.m e94.flow).getD zeroE).flow.sport) && ((((lookL T5.m e94.flow).getD zeroE).flow.dst) == (((lookL T5.m e94.flow).getD zeroE).flow.dst) && ((((lookL T5.m e94.flow).getD zeroE).flow.dport) == (((lookL T5.m e94.flow).getD zeroE).flow.dport) && true))))) && ((((lookL T5.m e94.flow).getD zeroE).dip) == (((lookL T5.m e94.flow).getD zeroE).dip) && ((((lookL T5.m e94.flow).getD zeroE).epoch) == (((lookL T5.m e94.flow).getD zeroE).epoch) && ((((lookL T5.m e94.flow).getD zeroE).trusted) == (((lookL T5.m e94.flow).getD zeroE).trusted) && ((((lookL T5.m e94.flow).getD zeroE).closing) == (((lookL T5.m e94.flow).getD zeroE).closing) && ((((lookL T5.m e94.flow).getD zeroE).last) == (((lookL T5.m e94.flow).getD zeroE).last) && true))))))) w_ := fun w_ => (run_eql_N (by kernel_rfl) (by kernel_rfl))
                refine WL.sem (do eqGuard .eql 34 (Operand.tmp 173) (Operand.tmp 174) (.agg #[.int .i64 (((lookL T5.m e94.flow).getD zeroE).flow.proto), .int .u32 (((lookL T5.m e94.flow).getD zeroE).flow.src), .int .i64 (((lookL T5.m e94.flow).getD zeroE).flow.sport), .int .u32 (((lookL T5.m e94.flow).getD zeroE).flow.dst), .int .i64 (((lookL T5.m e94.flow).getD zeroE).flow.dport), .int .u32 (((lookL T5.m e94.flow).getD zeroE).dip), .int .i64 (((lookL T5.m e94.flow).getD zeroE).epoch), .bool (((lookL T5.m e94.flow).getD zeroE).trusted), .bool (((lookL T5.m e94.flow).getD zeroE).closing), .int .i64 (((lookL T5.m e94.flow).getD zeroE).last)]) (.agg #[.int .i64 (((lookL T5.m e94.flow).getD zeroE).flow.proto), .int .u32 (((lookL T5.m e94.flow).getD zeroE).flow.src), .int .i64 (((lookL T5.m e94.flow).getD zeroE).flow.sport), .int .u32 (((lookL T5.m e94.flow).getD zeroE).flow.dst), .int .i64 (((lookL T5.m e94.flow).getD zeroE).flow.dport), .int .u32 (((lookL T5.m e94.flow).getD zeroE).dip), .int .i64 (((lookL T5.m e94.flow).getD zeroE).epoch), .bool (((lookL T5.m e94.flow).getD zeroE).trusted), .bool (((lookL T5.m e94.flow).getD zeroE).closing), .int .i64 (((lookL T5.m e94.flow).getD zeroE).last)]); binOp .eql 34 (.agg #[.int .i64 (((lookL T5.m e94.flow).getD zeroE).flow.proto), .int .u32 (((lookL T5.m e94.flow).getD zeroE).flow.src), .int .i64 (((lookL T5.m e94.flow).getD zeroE).flow.sport), .int .u32 (((lookL T5.m e94.flow).getD zeroE).flow.dst), .int .i64 (((lookL T5.m e94.flow).getD zeroE).flow.dport), .int .u32 (((lookL T5.m e94.flow).getD zeroE).dip), .int .i64 (((lookL T5.m e94.flow).getD zeroE).epoch), .bool (((lookL T5.m e94.flow).getD zeroE).trusted), .bool (((lookL T5.m e94.flow).getD zeroE).closing), .int .i64 (((lookL T5.m e94.flow).getD zeroE).last)]) (.agg #[.int .i64 (((lookL T5.m e94.flow).getD zeroE).flow.proto), .int .u32 (((lookL T5.m e94.flow).getD zeroE).flow.src), .int .i64 (((lookL T5.m e94.flow).getD zeroE).flow.sport), .int .u32 (((lookL T5.m e94.flow).getD zeroE).flow.dst), .int .i64 (((lookL T5.m e94.flow).getD zeroE).flow.dport), .int .u32 (((lookL T5.m e94.flow).getD zeroE).dip), .int .i64 (((lookL T5.m e94.flow).getD zeroE).epoch), .bool (((lookL T5.m e94.flow).getD zeroE).trusted), .bool (((lookL T5.m e94.flow).getD zeroE).closing), .int .i64 (((lookL T5.m e94.flow).getD zeroE).last)])) 175 (.bool (((((lookL T5.m e94.flow).getD zeroE).flow.proto) == (((lookL T5.m e94.flow).getD zeroE).flow.proto) && ((((lookL T5.m e94.flow).getD zeroE).flow.src) == (((lookL T5.m e94.flow).getD zeroE).flow.src) && ((((lookL T5.m e94.flow).getD zeroE).flow.sport) == (((lookL T5.m e94.flow).getD zeroE).flow.sport) && ((((lookL T5.m e94.flow).getD zeroE).flow.dst) == (((lookL T5.m e94.flow).getD zeroE).flow.dst) && ((((lookL T5.m e94.flow).getD zeroE).flow.dport) == (((lookL T5.m e94.flow).getD zeroE).flow.dport) && true))))) && ((((lookL T5.m e94.flow).getD zeroE).dip) == (((lookL T5.m e94.flow).getD zeroE).dip) && ((((lookL T5.m e94.flow).getD zeroE).epoch) == (((lookL T5.m e94.flow).getD zeroE).epoch) && ((((lookL T5.m e94.flow).getD zeroE).trusted) == (((lookL T5.m e94.flow).getD zeroE).trusted) && ((((lookL T5.m e94.flow).getD zeroE).closing) == (((lookL T5.m e94.flow).getD zeroE).closing) && ((((lookL T5.m e94.flow).getD zeroE).last) == (((lookL T5.m e94.flow).getD zeroE).last) && true))))))) (by kernel_rfl) (hr263 _) ?_
                refine WL.runs 1 [(176, .bool (((((lookL T5.m e94.flow).getD zeroE).flow.proto) == (((lookL T5.m e94.flow).getD zeroE).flow.proto) && ((((lookL T5.m e94.flow).getD zeroE).flow.src) == (((lookL T5.m e94.flow).getD zeroE).flow.src) && ((((lookL T5.m e94.flow).getD zeroE).flow.sport) == (((lookL T5.m e94.flow).getD zeroE).flow.sport) && ((((lookL T5.m e94.flow).getD zeroE).flow.dst) == (((lookL T5.m e94.flow).getD zeroE).flow.dst) && ((((lookL T5.m e94.flow).getD zeroE).flow.dport) == (((lookL T5.m e94.flow).getD zeroE).flow.dport) && true))))) && ((((lookL T5.m e94.flow).getD zeroE).dip) == (((lookL T5.m e94.flow).getD zeroE).dip) && ((((lookL T5.m e94.flow).getD zeroE).epoch) == (((lookL T5.m e94.flow).getD zeroE).epoch) && ((((lookL T5.m e94.flow).getD zeroE).trusted) == (((lookL T5.m e94.flow).getD zeroE).trusted) && ((((lookL T5.m e94.flow).getD zeroE).closing) == (((lookL T5.m e94.flow).getD zeroE).closing) && ((((lookL T5.m e94.flow).getD zeroE).last) == (((lookL T5.m e94.flow).getD zeroE).last) && true)))))))] (fun _ => by kernel_rfl) ?_
                refine WL.know 176 (.bool (((((lookL T5.m e94.flow).getD zeroE).flow.proto) == (((lookL T5.m e94.flow).getD zeroE).flow.proto) && ((((lookL T5.m e94.flow).getD zeroE).flow.src) == (((lookL T5.m e94.flow).getD zeroE).flow.src) && ((((lookL T5.m e94.flow).getD zeroE).flow.sport) == (((lookL T5.m e94.flow).getD zeroE).flow.sport) && ((((lookL T5.m e94.flow).getD zeroE).flow.dst) == (((lookL T5.m e94.flow).getD zeroE).flow.dst) && ((((lookL T5.m e94.flow).getD zeroE).flow.dport) == (((lookL T5.m e94.flow).getD zeroE).flow.dport) && true))))) && ((((lookL T5.m e94.flow).getD zeroE).dip) == (((lookL T5.m e94.flow).getD zeroE).dip) && ((((lookL T5.m e94.flow).getD zeroE).epoch) == (((lookL T5.m e94.flow).getD zeroE).epoch) && ((((lookL T5.m e94.flow).getD zeroE).trusted) == (((lookL T5.m e94.flow).getD zeroE).trusted) && ((((lookL T5.m e94.flow).getD zeroE).closing) == (((lookL T5.m e94.flow).getD zeroE).closing) && ((((lookL T5.m e94.flow).getD zeroE).last) == (((lookL T5.m e94.flow).getD zeroE).last) && true))))))) (.bool true) rfl (congrArg Value.bool (by simp)) ?_
                refine WL.runs 5 [(12, .bool (((lookL T5.m e94.flow).isSome) == ((lookL T5.m e94.flow).isSome))), (180, .bool (((lookL T5.m e94.flow).isSome) == ((lookL T5.m e94.flow).isSome))), (179, .bool (((lookL T5.m e94.flow).isSome) == ((lookL T5.m e94.flow).isSome))), (178, .bool ((lookL T5.m e94.flow).isSome)), (177, .bool ((lookL T5.m e94.flow).isSome))] (fun _ => by kernel_rfl) ?_
                refine WL.done rfl ?_
                refine QX.block_normal ?_
                refine QX.then_normal ?_
                have hC264 := hC260.pickM [0] [0, 1] (by decide) rfl rfl
                exact fun a_ ha_ => hK116 _ _ ⟨(((lookL T5.m e94.flow).isSome) == ((lookL T5.m e94.flow).isSome)), T5, F5, rfl, hC264, hf261, hf262, by first | rfl | (simp; done), hok5, hms5, hbd5⟩ a_ (ha_.weaken (sub_of ⟨rfl, rfl, rfl, rfl, rfl, rfl, rfl, rfl, rfl, trivial⟩))
              · -- e94.kind = 2: false
                have t219 : ¬ (e94.kind = 2) := by simpa using t219b
                refine WC.cond_false rfl ?_
                refine WC.seq (fun K265 hK266 => ?_)
                refine WC.region ?_
                refine WL.runs 2 [(181, .bool (e94.kind == 3)), (182, .bool (e94.kind == 3))] (fun _ => by kernel_rfl) ?_
                refine WL.done rfl ?_
                refine QX.then_normal (hK266 _ _ ?_)
                refine WC.test_at 181 (e94.kind == 3) rfl (fun t267b => ?_) (fun t267b => ?_)
                · -- e94.kind = 3: true
                  have t267 : e94.kind = 3 := by simpa using t267b
                  refine WC.cond_true rfl ?_
                  refine WC.seq (fun K268 hK269 => ?_)
                  refine WC.region ?_
                  refine WL.runs 1 [(183, .pointer (some ⟨g100, 1, none⟩))] (fun _ => by kernel_rfl) ?_
                  refine WL.load 32 (.pointer (some ⟨g100, 1, none⟩)) (.agg #[.int .i64 e94.flow.proto, .int .u32 e94.flow.src, .int .i64 e94.flow.sport, .int .u32 e94.flow.dst, .int .i64 e94.flow.dport]) 184 (by kernel_rfl) (run_ld (hC110.get 0 rfl) rfl) ?_
                  refine WL.newM hC110 (fun b => .slice (some ⟨b, 0, none⟩) 1 1) (.cells #[.int .i64 e94.flow.proto, .int .u32 e94.flow.src, .int .i64 e94.flow.sport, .int .u32 e94.flow.dst, .int .i64 e94.flow.dport] 32) 185 (fun _ => by kernel_rfl) (fun g270 w271 hb274 hF272 hC273 => ?_)
                  have hf275 := tbAt_fr hf111 hF272 (by simp)
                  have hf276 := dfAt_fr hf112 hF272 (by simp)
                  refine WL.runs 1 [(186, .pointer (some ⟨g100, 6, none⟩))] (fun _ => by kernel_rfl) ?_
                  refine WL.load 41 (.pointer (some ⟨g100, 6, none⟩)) (.slice e94.A e94.n e94.c) 187 (by kernel_rfl) (run_ld (hC273.get 0 rfl) rfl) ?_
                  have ho278 : World.ownsRow w271 0 32 5 (.slice (some ⟨g270, 0, none⟩) 1 1) 1 (([e94.flow].flatMap cellsF)) := own_of_blk (Nat.zero_le _) (hC273.get 1 rfl) (Nat.le_refl _) (by decide) rfl rfl
                  have hC277 := hC273.toF 1 rfl
                  obtain ⟨v279, w280, hr281, ho282, hF283, hC284, hnil285, hsub286⟩ := app_run Try.prog hC277 2 (v := .slice (some ⟨g270, 0, none⟩) 1 1) rfl 41 41 32 5 40 1 e94.n e94.c e94.A rfl ho278 (e94.fs.flatMap cellsF) (flat_len_n cellsF_len (by first | rfl | assumption | (simp; done) | (simp; omega))) (Rd.src_n (Rd.fr hop_e94.row hC277.fr) cellsF_len (by decide) (by first | rfl | assumption | (simp; done) | (simp; omega))) (flat_one cellsF_one _) (by simp only [maxLen]; omega) (by omega)
                  have ho290 := own_app (enc := cellsF) (ys := [e94.flow]) (zs := e94.fs) ho282
                  obtain ⟨A287, c288, rfl, hle289⟩ := own_form ho290
                  refine WL.sem (Builtin.append_ #[41, 41] 41 #[.slice (some ⟨g270, 0, none⟩) 1 1, .slice e94.A e94.n e94.c]) 188 (.slice A287 (1 + e94.n) c288) (by kernel_rfl) hr281 ?_
                  have hf291 := tbAt_fr hf275 hF283 (hC277.disj 0 2 rfl rfl (by decide))
                  have hf292 := dfAt_fr hf276 hF283 (hC277.disj 1 2 rfl rfl (by decide))
                  refine WL.runs 1 [(23, .slice A287 (1 + e94.n) c288)] (fun _ => by kernel_rfl) ?_
                  refine WL.done rfl ?_
                  refine QX.then_normal (hK269 _ _ ?_)
                  refine WC.region ?_
                  refine WL.runs 2 [(190, .slice A287 (1 + e94.n) c288), (189, .pointer (some ⟨p38, 0, none⟩))] (fun _ => by kernel_rfl) ?_
                  have hcr_ := own_count cellsF_len (by decide) ho290
                  have hdj_ : ∀ g_ o_, A287 = some ⟨g_, o_, none⟩ → g_ ≠ p38 ∧ g_ ≠ b39 := fun g_ o_ h_ => by
                    have hm_ : g_ ∈ blk (.slice A287 (1 + e94.n) c288) := by rw [h_]; simp [blk, Value.ownBlock]
                    have hd_ := hC284.disj 2 0 rfl rfl (by decide) g_ hm_
                    simpa using hd_
                  have hrm293 := Remove_ct p38 b39 T5 A287 c288 ([e94.flow] ++ e94.fs) w280 hf291 hok5.bth hok5.buh (own_rd ho290 cellsF_len (by decide)) hdj_ (by rw [hcr_]; omega)
                  rw [hcr_] at hrm293
                  refine WL.call rfl rfl rfl rfl rfl (by kernel_rfl) (hrm293) ?_
                  rintro _ w295 ⟨rfl, hF294, hT297⟩
                  have hok298 := hok5.remF 0 ([e94.flow] ++ e94.fs)
                  have hms299 := And.intro ((remF_ms ([e94.flow] ++ e94.fs) T5 0).1.trans hms5.1) ((remF_ms ([e94.flow] ++ e94.fs) T5 0).2.trans hms5.2)
                  have hC296 := hC284.callF 0 rfl hF294 (fun _ hx_ => .inl hx_) (tbAt_lt hT297)
                  refine ⟨_, rfl, ?_⟩
                  have hf300 := dfAt_fr hf292 hF294 (hC284.disj 1 0 rfl rfl (by decide))
                  have ho301 := own_fr ho290 hF294 (hC284.disj 2 0 rfl rfl (by decide))
                  have hbd302 : BdT ((([e94.flow] ++ e94.fs).foldl remF (T5, 0)).1) := BdT.remF ([e94.flow] ++ e94.fs) hok5 hbd5
                  refine WL.runs 2 [(193, .slice A287 (1 + e94.n) c288), (192, .pointer (some ⟨g66, 0, none⟩))] (fun _ => by kernel_rfl) ?_
                  have hcr2_ := own_count cellsF_len (by decide) ho301
                  have hx303 := RRemove_ct F5 g66 (allE T5.m) tr un A287 c288 ([e94.flow] ++ e94.fs) w295 hf300 (ltE_nodup (allE_lt hok5)) (Nat.le_trans (Nat.le_of_eq (allE_len _)) (Nat.le_trans hok5.bd.2.2 (by decide))) (own_rd ho301 cellsF_len (by decide)) (by rw [hcr2_]; omega) (fun b_ off_ e_ _ => hC296.disj 2 1 rfl rfl (by decide) b_ (blk_in e_))
                  rw [hcr2_, link_rem _ hok5] at hx303
                  refine WL.call rfl rfl rfl rfl rfl (by kernel_rfl) (hx303) ?_
                  rintro _ w305 ⟨F308, rfl, hF304, hT307, hsub309⟩
                  have hT307' : dfAt w305 F308 g66 (allE (([e94.flow] ++ e94.fs).foldl remF (T5, 0)).1.m) tr un := hT307
                  have hC306 := hC296.callF 1 rfl hF304 hsub309 (dfAt_lt hT307)
                  refine ⟨_, rfl, ?_⟩
                  have hf310 := tbAt_fr hT297 hF304 (hC296.disj 0 1 rfl rfl (by decide))
                  have ho311 := own_fr ho301 hF304 (hC296.disj 2 1 rfl rfl (by decide))
                  refine WL.runs 2 [(12, .bool (((([e94.flow] ++ e94.fs).foldl remF (T5, 0)).2) == ((([e94.flow] ++ e94.fs).foldl remF (T5, 0)).2))), (195, .bool (((([e94.flow] ++ e94.fs).foldl remF (T5, 0)).2) == ((([e94.flow] ++ e94.fs).foldl remF (T5, 0)).2)))] (fun _ => by kernel_rfl) ?_
                  refine WL.done rfl ?_
                  refine QX.block_normal ?_
                  refine QX.then_normal ?_
                  have hC312 := hC306.pickM [0] [0, 1] (by decide) rfl rfl
                  exact fun a_ ha_ => hK116 _ _ ⟨(((([e94.flow] ++ e94.fs).foldl remF (T5, 0)).2) == ((([e94.flow] ++ e94.fs).foldl remF (T5, 0)).2)), (([e94.flow] ++ e94.fs).foldl remF (T5, 0)).1, F308, rfl, hC312, hf310, hT307', by first | rfl | (simp; done), hok298, hms299, hbd302⟩ a_ (ha_.weaken (sub_of ⟨rfl, rfl, rfl, rfl, rfl, rfl, rfl, rfl, rfl, trivial⟩))
                · -- e94.kind = 3: false
                  have t267 : ¬ (e94.kind = 3) := by simpa using t267b
                  refine WC.cond_false rfl ?_
                  refine WC.drawC hC110 ([p38, b39] ++ F5) (by kernel_rfl) (fun w313 hF314 hC315 hS316 => ?_)
                  have hf317 := tbAt_fr hf111 hF314 (by simp)
                  have hf318 := dfAt_fr hf112 hF314 (by simp)
                  refine WD.pure (NoPanic.block (NoPanic.then (NoPanic.block (NoPanic.then (NoPanic.then (NoPanic.block (NoPanic.then hN))))))) 0 85 (.pointer (some ⟨p38, 0, none⟩)) (by kernel_rfl) (fun _ => by kernel_rfl) hS316 ?_
                  refine WD.pure (NoPanic.block (NoPanic.then (NoPanic.block (NoPanic.then (NoPanic.then (NoPanic.block (NoPanic.then hN))))))) 1 86 (.pointer (some ⟨g100, 10, none⟩)) (by kernel_rfl) (fun _ => by kernel_rfl) hS316 ?_
                  refine WD.pure (NoPanic.block (NoPanic.then (NoPanic.block (NoPanic.then (NoPanic.then (NoPanic.block (NoPanic.then hN))))))) 4 89 (.pointer (some ⟨g66, 0, none⟩)) (by kernel_rfl) (fun _ => by kernel_rfl) hS316 ?_
                  refine WD.pure (NoPanic.block (NoPanic.then (NoPanic.block (NoPanic.then (NoPanic.then (NoPanic.block (NoPanic.then hN))))))) 5 90 (.pointer (some ⟨g100, 10, none⟩)) (by kernel_rfl) (fun _ => by kernel_rfl) hS316 ?_
                  refine WD.load (NoPanic.block (NoPanic.then (NoPanic.block (NoPanic.then (NoPanic.then (NoPanic.block (NoPanic.then hN))))))) 2 3 (.pointer (some ⟨g100, 10, none⟩)) (.int .i64 e94.now) 87 (by kernel_rfl) (by kernel_rfl) (fun _ hS_ => run_ld (Fr.has hS_ (hC315.get 0 rfl) (fun h_ => (List.mem_append.1 h_).elim (hC315.notin 0 0 rfl rfl) (hC315.notin 1 0 rfl rfl))) rfl) hS316 ?_
                  refine WD.load (NoPanic.block (NoPanic.then (NoPanic.block (NoPanic.then (NoPanic.then (NoPanic.block (NoPanic.then hN))))))) 6 3 (.pointer (some ⟨g100, 10, none⟩)) (.int .i64 e94.now) 91 (by kernel_rfl) (by kernel_rfl) (fun _ hS_ => run_ld (Fr.has hS_ (hC315.get 0 rfl) (fun h_ => (List.mem_append.1 h_).elim (hC315.notin 0 0 rfl rfl) (hC315.notin 1 0 rfl rfl))) rfl) hS316 ?_
                  refine WD.call 3 (by kernel_rfl) rfl rfl rfl rfl rfl (by kernel_rfl) (Expire_ct p38 b39 T5 e94.now w313 hf317 hok5) ?_
                  rintro _ w321 ⟨v_, rfl, hF320, hT323, ho319⟩
                  have hok324 := hok5.outX e94.now
                  have hms325 := And.intro ((outX_ms T5 e94.now).1.trans hms5.1) ((outX_ms T5 e94.now).2.trans hms5.2)
                  have hC322 := hC315.callFN 0 rfl hF320 (fun _ hx_ => .inl hx_) (tbAt_lt hT323) (own_ge ho319) (own_lt ho319) (fun x_ hx_ hg_ => Nat.not_lt.2 (own_ge ho319 x_ hg_) (hC315.ltF 0 rfl x_ hx_))
                  obtain ⟨A326, c327, rfl, hle328⟩ := own_form ho319
                  have ho329 := own_base (b' := 0) ho319 (fun _ _ => Nat.zero_le _)
                  have hS330 := hS316.trans hF320 (fun x_ hx_ => .inl (List.mem_append.2 (.inl hx_)))
                  refine ⟨_, rfl, hS330, ?_⟩
                  have hf331 := dfAt_fr hf318 hF320 (hC315.disj 1 0 rfl rfl (by decide))
                  have hbd333 : BdT ((outX T5 e94.now).2) := BdT.outX hok5 hbd5 e94.now
                  have hx334 := RExpire_ct F5 g66 (allE T5.m) tr un e94.now w321 hf331 (fun x_ hx_ => (by obtain ⟨i_, hi_⟩ := List.getElem?_of_mem hx_; exact last_of hok5 hi_)) (Nat.le_trans (Nat.le_of_eq (allE_len _)) (Nat.le_trans hok5.bd.2.2 (by decide)))
                  rw [link_exp hok5] at hx334
                  refine WD.call 7 (by kernel_rfl) rfl rfl rfl rfl rfl (by kernel_rfl) (hx334) ?_
                  rintro _ w338 ⟨v_, F341, rfl, hF337, hT340, hsub342, ho335, hd336⟩
                  have hT340' : dfAt w338 F341 g66 (allE (outX T5 e94.now).2.m) tr un := hT340
                  have hC339 := hC322.callFN 1 rfl hF337 hsub342 (dfAt_lt hT340) (own_ge ho335) (own_lt ho335) (fun x_ hx_ h_ => hd336 x_ h_ hx_)
                  obtain ⟨A343, c344, rfl, hle345⟩ := own_form ho335
                  have ho346 := own_base (b' := 0) ho335 (fun _ _ => Nat.zero_le _)
                  have hS347 := hS330.trans hF337 (fun x_ hx_ => .inl (List.mem_append.2 (.inr hx_)))
                  refine ⟨_, rfl, hS347, ?_⟩
                  have hf348 := tbAt_fr hT323 hF337 (hC322.disj 0 1 rfl rfl (by decide))
                  have ho349 := own_fr ho329 hF337 (hC322.disj 2 1 rfl rfl (by decide))
                  refine WD.call 8 (by kernel_rfl) rfl rfl rfl rfl rfl (by kernel_rfl) (SameF_ct A326 c327 ((outX T5 e94.now).1) A343 c344 ((outX T5 e94.now).1) w338 (own_rd ho349 cellsF_len (by decide)) (own_rd ho346 cellsF_len (by decide)) (by have z_ := outX_len T5 e94.now; have z2_ := hok5.bd.2.2; omega)) ?_
                  rintro _ w352 ⟨rfl, hF351⟩
                  have hS354 := hS347.trans hF351 (by simp)
                  refine ⟨_, rfl, hS354, ?_⟩
                  have hC353 := hC339.call hF351
                  have hf355 := tbAt_fr hf348 hF351 (by simp)
                  have hf356 := dfAt_fr hT340' hF351 (by simp)
                  have ho357 := own_fr ho349 hF351 (by simp)
                  have ho358 := own_fr ho346 hF351 (by simp)
                  refine WD.pure (NoPanic.block (NoPanic.then (NoPanic.block (NoPanic.then (NoPanic.then (NoPanic.block (NoPanic.then hN))))))) 9 12 (.bool (decide ((outX T5 e94.now).1 = (outX T5 e94.now).1))) (by kernel_rfl) (fun _ => by kernel_rfl) hS354 ?_
                  refine WD.done (by kernel_rfl) ?_
                  refine QX.block_normal ?_
                  refine QX.then_normal ?_
                  have hC359 := hC353.pickM [0] [0, 1] (by decide) rfl rfl
                  exact fun a_ ha_ => hK116 _ _ ⟨(decide ((outX T5 e94.now).1 = (outX T5 e94.now).1)), (outX T5 e94.now).2, F341, rfl, hC359, hf355, hf356, by first | rfl | (simp; done), hok324, hms325, hbd333⟩ a_ (ha_.weaken (sub_of ⟨rfl, rfl, rfl, rfl, rfl, rfl, rfl, rfl, rfl, trivial⟩))
        rintro E_ w118 ⟨ok6, T6, F6, rfl, hC119, hT6, hD6, hb6, hok6, hms6, hbd6⟩
        subst hb6
        obtain ⟨hcn6a_, hcn6b_⟩ := cnt_all hok6
        have hbd6_ := hok6.bd
        obtain ⟨A360, c361, hp362, ho363, rfl, hn364⟩ := hD6
        have hC365 := hC119.unF1 1 rfl hp362 hn364
        refine WC.seq (fun K366 hK367 => ?_)
        refine WC.region ?_
        refine WL.runs 1 [(197, .pointer (some ⟨p38, 0, none⟩))] (fun _ => by kernel_rfl) ?_
        refine WL.call rfl rfl rfl rfl rfl (by kernel_rfl) (Len_ct p38 b39 T6 w118 hT6) ?_
        rintro _ w369 ⟨rfl, hF368⟩
        refine ⟨_, rfl, ?_⟩
        have hC370 := hC365.call hF368
        have hf371 := tbAt_fr hT6 hF368 (by simp)
        have ho372 := own_fr ho363 hF368 (by simp)
        refine WL.runs 5 [(25, .int .i64 T6.uh), (24, .int .i64 T6.th), (200, .int .i64 T6.uh), (199, .int .i64 T6.th), (196, .tuple #[.int .i64 T6.th, .int .i64 T6.uh])] (fun _ => by kernel_rfl) ?_
        refine WL.done rfl ?_
        refine QX.then_normal (hK367 _ _ ?_)
        refine WC.seq (fun K373 hK374 => ?_)
        refine WC.region ?_
        refine WL.runs 1 [(202, .pointer (some ⟨g66, 0, none⟩))] (fun _ => by kernel_rfl) ?_
        refine WL.call rfl rfl rfl rfl rfl (by kernel_rfl) (RLen_ct _ g66 (allE T6.m) tr un w369 (df_mk hC370 1 1 rfl rfl ho372)) ?_
        rintro _ w376 ⟨rfl, hF375⟩
        refine ⟨_, rfl, ?_⟩
        have hC377 := hC370.call hF375
        have hf378 := tbAt_fr hf371 hF375 (by simp)
        have ho379 := own_fr ho372 hF375 (by simp)
        refine WL.runs 5 [(27, .int .i64 (((allE T6.m).length : Int) - cntE (allE T6.m))), (26, .int .i64 (cntE (allE T6.m) : Int)), (205, .int .i64 (((allE T6.m).length : Int) - cntE (allE T6.m))), (204, .int .i64 (cntE (allE T6.m) : Int)), (201, .tuple #[.int .i64 (cntE (allE T6.m) : Int), .int .i64 (((allE T6.m).length : Int) - cntE (allE T6.m))])] (fun _ => by kernel_rfl) ?_
        refine WL.done rfl ?_
        refine QX.then_normal (hK374 _ _ ?_)
        refine WC.seq (fun K380 hK381 => ?_)
        refine WC.drawC hC377 [] (by kernel_rfl) (fun w382 hF383 hC384 hS385 => ?_)
        have hf386 := tbAt_fr hf378 hF383 (by simp)
        have ho387 := own_fr ho379 hF383 (by simp)
        refine WD.pure (NoPanic.then (NoPanic.block (NoPanic.then (NoPanic.then (NoPanic.block (NoPanic.then hN)))))) 0 206 (.bool true) (by kernel_rfl) (fun _ => by kernel_rfl) hS385 ?_
        refine WD.pure (NoPanic.then (NoPanic.block (NoPanic.then (NoPanic.then (NoPanic.block (NoPanic.then hN)))))) 1 207 (.bool false) (by kernel_rfl) (fun _ => by kernel_rfl) hS385 ?_
        refine WD.pure (NoPanic.then (NoPanic.block (NoPanic.then (NoPanic.then (NoPanic.block (NoPanic.then hN)))))) 2 208 (.bool false) (by kernel_rfl) (fun _ => by kernel_rfl) hS385 ?_
        refine WD.pure (NoPanic.then (NoPanic.block (NoPanic.then (NoPanic.then (NoPanic.block (NoPanic.then hN)))))) 3 209 (.int .i64 T6.th) (by kernel_rfl) (fun _ => by kernel_rfl) hS385 ?_
        refine WD.pure (NoPanic.then (NoPanic.block (NoPanic.then (NoPanic.then (NoPanic.block (NoPanic.then hN)))))) 4 210 (.int .i64 (cntE (allE T6.m) : Int)) (by kernel_rfl) (fun _ => by kernel_rfl) hS385 ?_
        refine WD.pure (NoPanic.then (NoPanic.block (NoPanic.then (NoPanic.then (NoPanic.block (NoPanic.then hN)))))) 5 211 (.bool (T6.th != (cntE (allE T6.m) : Int))) (by kernel_rfl) (fun _ => by kernel_rfl) hS385 ?_
        refine WD.pure (NoPanic.then (NoPanic.block (NoPanic.then (NoPanic.then (NoPanic.block (NoPanic.then hN)))))) 6 212 (.bool (T6.th != (cntE (allE T6.m) : Int))) (by kernel_rfl) (fun _ => by kernel_rfl) hS385 ?_
        refine WD.pure (NoPanic.then (NoPanic.block (NoPanic.then (NoPanic.then (NoPanic.block (NoPanic.then hN)))))) 7 213 (.bool (T6.th != (cntE (allE T6.m) : Int))) (by kernel_rfl) (fun _ => by kernel_rfl) hS385 ?_
        refine WD.know 213 (.bool (T6.th != (cntE (allE T6.m) : Int))) (.bool false) rfl (congrArg Value.bool (by rw [bne_eq_false_iff_eq]; omega)) ?_
        refine WD.pure (NoPanic.then (NoPanic.block (NoPanic.then (NoPanic.then (NoPanic.block (NoPanic.then hN)))))) 8 214 (.int .i64 T6.uh) (by kernel_rfl) (fun _ => by kernel_rfl) hS385 ?_
        refine WD.pure (NoPanic.then (NoPanic.block (NoPanic.then (NoPanic.then (NoPanic.block (NoPanic.then hN)))))) 9 215 (.int .i64 (((allE T6.m).length : Int) - cntE (allE T6.m))) (by kernel_rfl) (fun _ => by kernel_rfl) hS385 ?_
        refine WD.pure (NoPanic.then (NoPanic.block (NoPanic.then (NoPanic.then (NoPanic.block (NoPanic.then hN)))))) 10 216 (.bool (T6.uh != (((allE T6.m).length : Int) - cntE (allE T6.m)))) (by kernel_rfl) (fun _ => by kernel_rfl) hS385 ?_
        refine WD.pure (NoPanic.then (NoPanic.block (NoPanic.then (NoPanic.then (NoPanic.block (NoPanic.then hN)))))) 11 217 (.bool (T6.uh != (((allE T6.m).length : Int) - cntE (allE T6.m)))) (by kernel_rfl) (fun _ => by kernel_rfl) hS385 ?_
        refine WD.pure (NoPanic.then (NoPanic.block (NoPanic.then (NoPanic.then (NoPanic.block (NoPanic.then hN)))))) 12 218 (.bool (T6.uh != (((allE T6.m).length : Int) - cntE (allE T6.m)))) (by kernel_rfl) (fun _ => by kernel_rfl) hS385 ?_
        refine WD.know 218 (.bool (T6.uh != (((allE T6.m).length : Int) - cntE (allE T6.m)))) (.bool false) rfl (congrArg Value.bool (by rw [bne_eq_false_iff_eq]; omega)) ?_
        refine WD.pure (NoPanic.then (NoPanic.block (NoPanic.then (NoPanic.then (NoPanic.block (NoPanic.then hN)))))) 13 219 (.pointer (some ⟨p38, 0, none⟩)) (by kernel_rfl) (fun _ => by kernel_rfl) hS385 ?_
        refine WD.pure (NoPanic.then (NoPanic.block (NoPanic.then (NoPanic.then (NoPanic.block (NoPanic.then hN)))))) 15 221 (.pointer (some ⟨g66, 0, none⟩)) (by kernel_rfl) (fun _ => by kernel_rfl) hS385 ?_
        refine WD.pure (NoPanic.then (NoPanic.block (NoPanic.then (NoPanic.then (NoPanic.block (NoPanic.then hN)))))) 16 222 (.pointer (some ⟨g66, 0, none⟩)) (by kernel_rfl) (fun _ => by kernel_rfl) hS385 ?_
        refine WD.pure (NoPanic.then (NoPanic.block (NoPanic.then (NoPanic.then (NoPanic.block (NoPanic.then hN)))))) 17 223 (.pointer (some ⟨g66, 0, none⟩)) (by kernel_rfl) (fun _ => by kernel_rfl) hS385 ?_
        refine WD.load (NoPanic.then (NoPanic.block (NoPanic.then (NoPanic.then (NoPanic.block (NoPanic.then hN)))))) 18 44 (.pointer (some ⟨g66, 0, none⟩)) (.slice A360 ((allE T6.m).length) c361) 224 (by kernel_rfl) (by kernel_rfl) (fun _ hS_ => run_ld (Fr.has hS_ (hC384.get 1 rfl) (by simp)) rfl) hS385 ?_
        refine WD.call 14 (by kernel_rfl) rfl rfl rfl rfl rfl (by kernel_rfl) (All_ct p38 b39 T6 w382 hf386 hok6.flow (Nat.le_trans hok6.bd.2.2 (by decide))) ?_
        rintro _ w390 ⟨v_, rfl, hF389, ho388⟩
        have hC391 := hC384.callN hF389 (own_ge ho388) (own_lt ho388)
        obtain ⟨A392, c393, rfl, hle394⟩ := own_form ho388
        have ho396 := own_base (b' := 0) ho388 (fun _ _ => Nat.zero_le _)
        have hS397 := hS385.trans hF389 (by simp)
        refine ⟨_, rfl, hS397, ?_⟩
        have hf398 := tbAt_fr hf386 hF389 (by simp)
        have ho399 := own_fr ho387 hF389 (by simp)
        refine WD.call 19 (by kernel_rfl) rfl rfl rfl rfl rfl (by kernel_rfl) (SameE_n A392 ((allE T6.m).length) c393 (allE T6.m) A360 ((allE T6.m).length) c361 (allE T6.m) w390 (own_rd ho396 cellsE_len (by decide)) (own_rd ho399 cellsE_len (by decide)) (own_count cellsE_len (by decide) ho396) (own_count cellsE_len (by decide) ho399) (by rw [allE_len]; omega)) ?_
        rintro _ w402 ⟨rfl, hF401⟩
        have hS404 := hS397.trans hF401 (by simp)
        refine ⟨_, rfl, hS404, ?_⟩
        have hC403 := hC391.call hF401
        have hf405 := tbAt_fr hf398 hF401 (by simp)
        have ho406 := own_fr ho399 hF401 (by simp)
        have ho407 := own_fr ho396 hF401 (by simp)
        refine WD.pure (NoPanic.then (NoPanic.block (NoPanic.then (NoPanic.then (NoPanic.block (NoPanic.then hN)))))) 20 226 (.bool (!(decide ((allE T6.m) = (allE T6.m))))) (by kernel_rfl) (fun _ => by kernel_rfl) hS404 ?_
        refine WD.pure (NoPanic.then (NoPanic.block (NoPanic.then (NoPanic.then (NoPanic.block (NoPanic.then hN)))))) 21 227 (.bool (!(decide ((allE T6.m) = (allE T6.m))))) (by kernel_rfl) (fun _ => by kernel_rfl) hS404 ?_
        refine WD.done (by kernel_rfl) ?_
        refine QX.then_normal (hK381 _ _ ?_)
        refine WC.know 227 (.bool (!(decide ((allE T6.m) = (allE T6.m))))) (.bool false) rfl (congrArg Value.bool (by simp)) ?_
        refine WC.cond_false rfl ?_
        refine WC.skip ?_
        refine QX.block_normal ?_
        refine QX.then_normal (hK91 _ _ ?_)
        refine WC.region ?_
        refine WL.runs 1 [(228, .int .i64 (IntKind.i64.wrap ((i : Int) + 1)))] (fun _ => by kernel_rfl) ?_
        refine WL.recast (show (.int .i64 (IntKind.i64.wrap ((i : Int) + 1)) : Value) = .int .i64 ((i : Int) + 1) from by rw [wrap_in_i64 ((i : Int) + 1) (by omega) (by omega)]) ?_
        refine WL.runs 1 [(79, .int .i64 ((i : Int) + 1))] (fun _ => by kernel_rfl) ?_
        refine WL.done rfl ?_
        refine QX.then_normal ?_
        have hdf408 : dfAt w402 (g66 :: blk (.slice A360 ((allE T6.m).length) c361)) g66 (allE T6.m) tr un := df_mk hC403 1 1 rfl rfl ho406
        have hC409 := hC403.toF1 1 1 rfl rfl
        have hC410 := hC409.pick [] [0, 1] rfl rfl
        refine fun a_ ha_ => hK80 _ _ _ ?_ ⟨i + 1, T6, (g66 :: blk (.slice A360 ((allE T6.m).length) c361)), rfl, rfl, hC410, hf405, hdf408, by omega, hok6, hms6, hbd6⟩ a_ (ha_.weaken (sub_of ⟨rfl, rfl, rfl, rfl, rfl, rfl, rfl, rfl, trivial⟩))
        omega
      · -- (i : Int) < (ops.length : Int): false
        have t89 : (ops.length : Int) ≤ (i : Int) := by have q_ := of_decide_eq_false t89b; omega
        refine WC.cond_false rfl ?_
        refine WC.exit ?_
        refine QX.then_exit ?_
        refine QX.then_exit ?_
        refine QX.block_hit ?_
        refine QX.then_normal (hK76 _ _ ?_)
        refine WC.seq (fun K411 hK412 => ?_)
        refine WC.region ?_
        refine WL.runs 1 [(6, .bool true)] (fun _ => by kernel_rfl) ?_
        refine WL.done rfl ?_
        refine QX.then_normal (hK412 _ _ ?_)
        refine WC.ret ?_
        refine (hret _ _ _ rfl ?_).1
        clear hN hret hret' hK412 hK88 hK86 hK78 hK76 hK65 hK55 hK53 hK51 hK49 hK11 hK6 hK4 hK2
        exact ⟨rfl, hC84.fr⟩

end Go.Proofs.Ytimphmcoafapgaa
