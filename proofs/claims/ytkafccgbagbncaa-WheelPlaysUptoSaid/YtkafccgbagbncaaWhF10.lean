/- Contracts of functions of the program, each proved by a walk through its code; conditions stand in the statements. -/
import Derived.Test.YtkafccgbagbncaaWhE10
namespace Go.Proofs.Ytkafccgbagbncaa
set_option linter.unusedSimpArgs false
set_option linter.unusedVariables false
set_option linter.unusedSectionVars false
open Go Go.RowKit Go.Tw
set_option linter.unusedVariables false
set_option maxRecDepth 20000
theorem can_two (key a : Int) : canL [(key, a)] [key, key] = [] := by simp [canL, delL]
theorem can_one (key a : Int) : canL [(key, a)] [key] = [] := by simp [canL, delL]
theorem set_two (key a b : Int) : setL [(key, a)] b [key] = [(key, b)] := by simp [setL, delL]
theorem setH_0 {a : Int} (h : 0 ≤ a) (k : Int) : setH 0 a [k] = 0 := by unfold setH; rw [if_neg (by simp)]; omega
theorem dueH_now {h n : Int} (h1 : h ≤ n) (h2 : n ≤ 1099511627776) : dueH h n = n := by unfold dueH; rw [if_neg (by omega)]; omega
theorem cancels_ct (key a later : Int) (cancel : Bool) (w : World) : Calls Try.prog 25 #[.int .i64 key, .int .i64 a, .int .i64 later, .bool cancel] w fun e w' => e = .returned (.bool true) ∧ Fr w w' [] := by
  refine enterD (n := 112) Try.func25 rfl rfl (Nat.le_of_ble_eq_true rfl) ?_
  intro Q0 hN hret hret'
  have hC := Cx.start w
  refine WC.seq (fun K1 hK2 => ?_)
  refine WC.region ?_
  refine WL.runs 1 [(8, .bool false)] (fun _ => by kernel_rfl) ?_
  refine WL.done rfl ?_
  refine QX.then_normal (hK2 _ _ ?_)
  refine WC.seq (fun K3 hK4 => ?_)
  refine WC.seq (fun K5 hK6 => ?_)
  refine WC.region ?_
  refine WL.call rfl rfl rfl rfl rfl (by kernel_rfl) (alive_ct w) ?_
  rintro _ w8 ⟨rfl, hF7⟩
  refine ⟨_, rfl, ?_⟩
  have hC9 := hC.call hF7
  refine WL.runs 1 [(16, .bool false)] (fun _ => by kernel_rfl) ?_
  refine WL.done rfl ?_
  refine QX.then_normal (hK6 _ _ ?_)
  refine WC.cond_false rfl ?_
  refine WC.skip ?_
  refine QX.then_normal (hK4 _ _ ?_)
  refine WC.seq (fun K10 hK11 => ?_)
  refine WC.seq (fun K12 hK13 => ?_)
  refine WC.region ?_
  refine WL.runs 3 [(19, .bool (decide (a < 0))), (18, .bool (decide (a < 0))), (17, .int .i64 a)] (fun _ => by kernel_rfl) ?_
  refine WL.test_at 19 (decide (a < 0)) rfl (fun t14b => ?_) (fun t14b => ?_)
  · -- a < 0: true
    have t14 : a < 0 := by have q_ := of_decide_eq_true t14b; omega
    refine WL.runs 8 [(27, .bool true), (26, undef), (25, undef), (24, .bool true), (23, .bool true), (22, undef), (21, undef), (20, undef)] (fun _ => by kernel_rfl) ?_
    refine WL.done rfl ?_
    refine QX.then_normal (hK13 _ _ ?_)
    refine WC.cond_true rfl ?_
    refine WC.seq (fun K15 hK16 => ?_)
    refine WC.region ?_
    refine WL.runs 1 [(8, .bool true)] (fun _ => by kernel_rfl) ?_
    refine WL.done rfl ?_
    refine QX.then_normal (hK16 _ _ ?_)
    refine WC.ret ?_
    refine QX.then_ret ?_
    refine (hret _ _ _ rfl ?_).1
    clear hN hret hret' hK16 hK13 hK11 hK6 hK4 hK2
    exact ⟨congrArg Ending.returned (congrArg Value.bool (by first | rfl | (simp; done) | (simp [lookL]; done))), hC9.fr⟩
  · -- a < 0: false
    have t14 : (0 : Int) ≤ a := by have q_ := of_decide_eq_false t14b; omega
    refine WL.runs 5 [(24, .bool (decide (later ≤ a))), (23, .bool (decide (later ≤ a))), (22, .bool (decide (later ≤ a))), (21, .int .i64 a), (20, .int .i64 later)] (fun _ => by kernel_rfl) ?_
    refine WL.test_at 24 (decide (later ≤ a)) rfl (fun t17b => ?_) (fun t17b => ?_)
    · -- later ≤ a: true
      have t17 : later ≤ a := by have q_ := of_decide_eq_true t17b; omega
      refine WL.runs 3 [(27, .bool true), (26, undef), (25, undef)] (fun _ => by kernel_rfl) ?_
      refine WL.done rfl ?_
      refine QX.then_normal (hK13 _ _ ?_)
      refine WC.cond_true rfl ?_
      refine WC.seq (fun K18 hK19 => ?_)
      refine WC.region ?_
      refine WL.runs 1 [(8, .bool true)] (fun _ => by kernel_rfl) ?_
      refine WL.done rfl ?_
      refine QX.then_normal (hK19 _ _ ?_)
      refine WC.ret ?_
      refine QX.then_ret ?_
      refine (hret _ _ _ rfl ?_).1
      clear hN hret hret' hK19 hK13 hK11 hK6 hK4 hK2
      exact ⟨congrArg Ending.returned (congrArg Value.bool (by first | rfl | (simp; done) | (simp [lookL]; done))), hC9.fr⟩
    · -- later ≤ a: false
      have t17 : a < later := by have q_ := of_decide_eq_false t17b; omega
      refine WL.runs 3 [(27, .bool (decide (later > 1099511627776))), (26, .bool (decide (later > 1099511627776))), (25, .int .i64 later)] (fun _ => by kernel_rfl) ?_
      refine WL.done rfl ?_
      refine QX.then_normal (hK13 _ _ ?_)
      refine WC.test_at 27 (decide (later > 1099511627776)) rfl (fun t20b => ?_) (fun t20b => ?_)
      · -- later > 1099511627776: true
        have t20 : (1099511627776 : Int) < later := by have q_ := of_decide_eq_true t20b; omega
        refine WC.cond_true rfl ?_
        refine WC.seq (fun K21 hK22 => ?_)
        refine WC.region ?_
        refine WL.runs 1 [(8, .bool true)] (fun _ => by kernel_rfl) ?_
        refine WL.done rfl ?_
        refine QX.then_normal (hK22 _ _ ?_)
        refine WC.ret ?_
        refine QX.then_ret ?_
        refine (hret _ _ _ rfl ?_).1
        clear hN hret hret' hK22 hK13 hK11 hK6 hK4 hK2
        exact ⟨congrArg Ending.returned (congrArg Value.bool (by first | rfl | (simp; done) | (simp [lookL]; done))), hC9.fr⟩
      · -- later > 1099511627776: false
        have t20 : later ≤ 1099511627776 := by have q_ := of_decide_eq_false t20b; omega
        refine WC.cond_false rfl ?_
        refine WC.skip ?_
        refine QX.then_normal (hK11 _ _ ?_)
        refine WC.seq (fun K23 hK24 => ?_)
        refine WC.region ?_
        refine WL.call rfl rfl rfl rfl rfl (by kernel_rfl) (New_ct 7 w8 (by omega) (by omega)) ?_
        rintro _ w30 ⟨p25, F26, rfl, hF29, hT27, hge28⟩
        have hC31 := hC9.callN hF29 hge28 (whAt_lt hT27)
        refine ⟨_, rfl, ?_⟩
        refine WL.runs 5 [(10, .nilIface), (9, .pointer (some ⟨p25, 0, none⟩)), (31, .nilIface), (30, .pointer (some ⟨p25, 0, none⟩)), (28, .tuple #[.pointer (some ⟨p25, 0, none⟩), .nilIface])] (fun _ => by kernel_rfl) ?_
        refine WL.done rfl ?_
        refine QX.then_normal (hK24 _ _ ?_)
        refine WC.seq (fun K33 hK34 => ?_)
        refine WC.seq (fun K35 hK36 => ?_)
        refine WC.region ?_
        refine WL.runs 10 [(41, .int .i64 key), (40, .int .i64 a), (39, .pointer (some ⟨p25, 0, none⟩)), (38, .bool false), (37, .bool false), (36, .bool false), (35, .pointer (some ⟨p25, 0, none⟩)), (34, .bool false), (33, .bool false), (32, .nilIface)] (fun _ => by kernel_rfl) ?_
        refine WL.newM hC31 (fun b => .slice (some ⟨b, 0, none⟩) 1 1) (.cells #[.int .i64 key] 3) 42 (fun _ => by kernel_rfl) (fun g37 w38 hb41 hF39 hC40 => ?_)
        have hf42 := whAt_fr hT27 hF39 (by simp)
        refine WL.call rfl rfl rfl rfl rfl (by kernel_rfl) (Set_to F26 p25 7 ([] : List (Int × Int)) 0 a (some ⟨g37, 0, none⟩) 1 1 [key] w38 ([(key, a)] : List (Int × Int)) 0 (rfl) (setH_0 (by omega) _) hf42 (by omega) (by omega) (by first | (simp; done) | (simp; omega) | omega) (Rd.blk (hC40.get 0 rfl) (Go.Tw.encI_len _) rfl) rfl (by simp) (fun _ _ e_ _ => by cases e_; exact hC40.notin 0 0 rfl rfl)) ?_
        rintro _ w44 ⟨F47, rfl, hF43, hT46, hsub48⟩
        have hT46' : whAt w44 F47 p25 7 ([(key, a)] : List (Int × Int)) 0 := hT46
        have hC45 := hC40.callF 0 rfl hF43 hsub48 (whAt_lt hT46')
        refine ⟨_, rfl, ?_⟩
        refine WL.runs 2 [(45, .bool false), (44, .bool false)] (fun _ => by kernel_rfl) ?_
        refine WL.done rfl ?_
        refine QX.then_normal (hK36 _ _ ?_)
        refine WC.cond_false rfl ?_
        refine WC.skip ?_
        refine QX.then_normal (hK34 _ _ ?_)
        refine WC.seq (fun K49 hK50 => ?_)
        refine WC.seq (fun K51 hK52 => ?_)
        refine WC.region ?_
        refine WL.runs 1 [(46, .bool cancel)] (fun _ => by kernel_rfl) ?_
        refine WL.done rfl ?_
        refine QX.then_normal (hK52 _ _ ?_)
        refine WC.test_at 46 (cancel) rfl (fun t53b => ?_) (fun t53b => ?_)
        · -- cancel = true: true
          refine WC.cond_true rfl ?_
          refine WC.seq (fun K54 hK55 => ?_)
          refine WC.seq (fun K56 hK57 => ?_)
          refine WC.region ?_
          refine WL.runs 3 [(49, .int .i64 key), (48, .int .i64 key), (47, .pointer (some ⟨p25, 0, none⟩))] (fun _ => by kernel_rfl) ?_
          refine WL.newM hC45 (fun b => .slice (some ⟨b, 0, none⟩) 2 2) (.cells #[.int .i64 key, .int .i64 key] 3) 50 (fun _ => by kernel_rfl) (fun g58 w59 hb62 hF60 hC61 => ?_)
          have hf63 := whAt_fr hT46' hF60 (by simp)
          refine WL.call rfl rfl rfl rfl rfl (by kernel_rfl) (Cancel_n F47 p25 7 ([(key, a)] : List (Int × Int)) 0 (some ⟨g58, 0, none⟩) 2 2 [key, key] w59 hf63 (Rd.blk (hC61.get 1 rfl) (Go.Tw.encI_len _) rfl) rfl (by simp) (fun _ _ e_ _ => by cases e_; exact hC61.notin 0 1 rfl rfl)) ?_
          rintro _ w65 ⟨F68, rfl, hF64, hT67, hsub69⟩
          have hT67' : whAt w65 F68 p25 7 ([] : List (Int × Int)) 0 := by have h_ := hT67; rw [can_two] at h_; exact h_
          have hC66 := hC61.callF 0 rfl hF64 hsub69 (whAt_lt hT67')
          refine ⟨_, rfl, ?_⟩
          refine WL.runs 1 [(52, .bool ((canN ([(key, a)] : List (Int × Int)) [key, key] : Int) != 1))] (fun _ => by kernel_rfl) ?_
          refine WL.done rfl ?_
          refine QX.then_normal (hK57 _ _ ?_)
          refine WC.know 52 (.bool ((canN ([(key, a)] : List (Int × Int)) [key, key] : Int) != 1)) (.bool false) rfl (congrArg Value.bool (by simp [canN, lookL, delL])) ?_
          refine WC.cond_false rfl ?_
          refine WC.skip ?_
          refine QX.then_normal (hK55 _ _ ?_)
          refine WC.seq (fun K70 hK71 => ?_)
          refine WC.region ?_
          refine WL.runs 2 [(55, .int .i64 key), (54, .pointer (some ⟨p25, 0, none⟩))] (fun _ => by kernel_rfl) ?_
          refine WL.call rfl rfl rfl rfl rfl (by kernel_rfl) (At_ct F68 p25 7 ([] : List (Int × Int)) 0 key w65 hT67') ?_
          rintro _ w73 ⟨rfl, hF72⟩
          refine ⟨_, rfl, ?_⟩
          have hC74 := hC66.call hF72
          have hf75 := whAt_fr hT67' hF72 (by simp)
          refine WL.runs 5 [(12, .bool ((lookL ([] : List (Int × Int)) key).isSome)), (11, .int .i64 ((lookL ([] : List (Int × Int)) key).getD 0)), (58, .bool ((lookL ([] : List (Int × Int)) key).isSome)), (57, .int .i64 ((lookL ([] : List (Int × Int)) key).getD 0)), (53, .tuple #[.int .i64 ((lookL ([] : List (Int × Int)) key).getD 0), .bool ((lookL ([] : List (Int × Int)) key).isSome)])] (fun _ => by kernel_rfl) ?_
          refine WL.done rfl ?_
          refine QX.then_normal (hK71 _ _ ?_)
          refine WC.seq (fun K76 hK77 => ?_)
          refine WC.region ?_
          refine WL.runs 3 [(61, .bool (!((lookL ([] : List (Int × Int)) key).isSome))), (60, .bool (!((lookL ([] : List (Int × Int)) key).isSome))), (59, .bool ((lookL ([] : List (Int × Int)) key).isSome))] (fun _ => by kernel_rfl) ?_
          refine WL.know 61 (.bool (!((lookL ([] : List (Int × Int)) key).isSome))) (.bool true) rfl (congrArg Value.bool (by simp [lookL])) ?_
          refine WL.runs 2 [(63, .int .i64 later), (62, .pointer (some ⟨p25, 0, none⟩))] (fun _ => by kernel_rfl) ?_
          refine WL.call rfl rfl rfl rfl rfl (by kernel_rfl) (Due_to F68 p25 7 ([] : List (Int × Int)) 0 later w73 ([] : List Int) ([] : List (Int × Int)) (dueH 0 later) (dueK_none (fun _ h_ => nomatch h_)) (rfl) (rfl) hf75 (by omega) (by omega) (by omega) (fun _ h_ => nomatch h_) (by simp)) ?_
          rintro _ w85 ⟨v78, F79, rfl, hF80, hT81, hsub82, ho83, hd84⟩
          have hC86 := hC74.callFN 0 rfl hF80 hsub82 (whAt_lt hT81) (own_ge ho83) (own_lt ho83) (fun x_ hx_ h_ => hd84 x_ h_ hx_)
          obtain ⟨A87, c88, rfl, hle89⟩ := own_form ho83
          have ho90 := own_base (b' := 0) ho83 (fun _ _ => Nat.zero_le _)
          refine ⟨_, rfl, ?_⟩
          refine WL.runs 4 [(68, .bool ((([] : List Int).length : Int) == 0)), (67, .bool ((([] : List Int).length : Int) == 0)), (66, .bool ((([] : List Int).length : Int) == 0)), (65, .int .i64 (([] : List Int).length : Int))] (fun _ => by kernel_rfl) ?_
          refine WL.know 68 (.bool ((([] : List Int).length : Int) == 0)) (.bool true) rfl (congrArg Value.bool (by simp)) ?_
          refine WL.runs 1 [(69, .pointer (some ⟨p25, 0, none⟩))] (fun _ => by kernel_rfl) ?_
          refine WL.call rfl rfl rfl rfl rfl (by kernel_rfl) (Len_ct F79 p25 7 ([] : List (Int × Int)) (dueH 0 later) w85 hT81) ?_
          rintro _ w93 ⟨rfl, hF92⟩
          refine ⟨_, rfl, ?_⟩
          have hC94 := hC86.call hF92
          have hf95 := whAt_fr hT81 hF92 (by simp)
          have ho96 := own_fr ho90 hF92 (by simp)
          refine WL.runs 3 [(8, .bool (((([] : List (Int × Int)) : List (Int × Int)).length : Int) == 0)), (72, .bool (((([] : List (Int × Int)) : List (Int × Int)).length : Int) == 0)), (71, .bool (((([] : List (Int × Int)) : List (Int × Int)).length : Int) == 0))] (fun _ => by kernel_rfl) ?_
          refine WL.done rfl ?_
          refine QX.then_normal (hK77 _ _ ?_)
          refine WC.ret ?_
          refine QX.then_ret ?_
          refine (hret _ _ _ rfl ?_).1
          clear hN hret hret' hK77 hK71 hK57 hK55 hK52 hK50 hK36 hK34 hK24 hK13 hK11 hK6 hK4 hK2
          exact ⟨congrArg Ending.returned (congrArg Value.bool (by first | rfl | (simp; done) | (simp [lookL]; done))), hC94.fr⟩
        · -- cancel = true: false
          refine WC.cond_false rfl ?_
          refine WC.skip ?_
          refine QX.then_normal (hK50 _ _ ?_)
          refine WC.seq (fun K97 hK98 => ?_)
          refine WC.seq (fun K99 hK100 => ?_)
          refine WC.region ?_
          refine WL.runs 3 [(75, .int .i64 key), (74, .int .i64 later), (73, .pointer (some ⟨p25, 0, none⟩))] (fun _ => by kernel_rfl) ?_
          refine WL.newM hC45 (fun b => .slice (some ⟨b, 0, none⟩) 1 1) (.cells #[.int .i64 key] 3) 76 (fun _ => by kernel_rfl) (fun g101 w102 hb105 hF103 hC104 => ?_)
          have hf106 := whAt_fr hT46' hF103 (by simp)
          refine WL.call rfl rfl rfl rfl rfl (by kernel_rfl) (Set_to F47 p25 7 ([(key, a)] : List (Int × Int)) 0 later (some ⟨g101, 0, none⟩) 1 1 [key] w102 ([(key, later)] : List (Int × Int)) 0 (set_two _ _ _) (setH_0 (by omega) _) hf106 (by omega) (by omega) (by first | (simp; done) | (simp; omega) | omega) (Rd.blk (hC104.get 1 rfl) (Go.Tw.encI_len _) rfl) rfl (by simp) (fun _ _ e_ _ => by cases e_; exact hC104.notin 0 1 rfl rfl)) ?_
          rintro _ w108 ⟨F111, rfl, hF107, hT110, hsub112⟩
          have hT110' : whAt w108 F111 p25 7 ([(key, later)] : List (Int × Int)) 0 := hT110
          have hC109 := hC104.callF 0 rfl hF107 hsub112 (whAt_lt hT110')
          refine ⟨_, rfl, ?_⟩
          refine WL.runs 1 [(78, .bool false)] (fun _ => by kernel_rfl) ?_
          refine WL.done rfl ?_
          refine QX.then_normal (hK100 _ _ ?_)
          refine WC.cond_false rfl ?_
          refine WC.skip ?_
          refine QX.then_normal (hK98 _ _ ?_)
          refine WC.seq (fun K113 hK114 => ?_)
          refine WC.region ?_
          refine WL.runs 2 [(81, .int .i64 key), (80, .pointer (some ⟨p25, 0, none⟩))] (fun _ => by kernel_rfl) ?_
          refine WL.call rfl rfl rfl rfl rfl (by kernel_rfl) (At_ct F111 p25 7 ([(key, later)] : List (Int × Int)) 0 key w108 hT110') ?_
          rintro _ w116 ⟨rfl, hF115⟩
          refine ⟨_, rfl, ?_⟩
          have hC117 := hC109.call hF115
          have hf118 := whAt_fr hT110' hF115 (by simp)
          refine WL.runs 5 [(14, .bool ((lookL ([(key, later)] : List (Int × Int)) key).isSome)), (13, .int .i64 ((lookL ([(key, later)] : List (Int × Int)) key).getD 0)), (84, .bool ((lookL ([(key, later)] : List (Int × Int)) key).isSome)), (83, .int .i64 ((lookL ([(key, later)] : List (Int × Int)) key).getD 0)), (79, .tuple #[.int .i64 ((lookL ([(key, later)] : List (Int × Int)) key).getD 0), .bool ((lookL ([(key, later)] : List (Int × Int)) key).isSome)])] (fun _ => by kernel_rfl) ?_
          refine WL.done rfl ?_
          refine QX.then_normal (hK114 _ _ ?_)
          refine WC.seq (fun K119 hK120 => ?_)
          refine WC.region ?_
          refine WL.runs 2 [(86, .bool ((lookL ([(key, later)] : List (Int × Int)) key).isSome)), (85, .bool ((lookL ([(key, later)] : List (Int × Int)) key).isSome))] (fun _ => by kernel_rfl) ?_
          refine WL.know 86 (.bool ((lookL ([(key, later)] : List (Int × Int)) key).isSome)) (.bool true) rfl (congrArg Value.bool (by simp [lookL])) ?_
          refine WL.runs 5 [(91, .bool (((lookL ([(key, later)] : List (Int × Int)) key).getD 0) == later)), (90, .bool (((lookL ([(key, later)] : List (Int × Int)) key).getD 0) == later)), (89, .bool (((lookL ([(key, later)] : List (Int × Int)) key).getD 0) == later)), (88, .int .i64 later), (87, .int .i64 ((lookL ([(key, later)] : List (Int × Int)) key).getD 0))] (fun _ => by kernel_rfl) ?_
          refine WL.know 91 (.bool (((lookL ([(key, later)] : List (Int × Int)) key).getD 0) == later)) (.bool true) rfl (congrArg Value.bool (by simp [lookL])) ?_
          refine WL.runs 1 [(92, .pointer (some ⟨p25, 0, none⟩))] (fun _ => by kernel_rfl) ?_
          refine WL.call rfl rfl rfl rfl rfl (by kernel_rfl) (Len_ct F111 p25 7 ([(key, later)] : List (Int × Int)) 0 w116 hf118) ?_
          rintro _ w122 ⟨rfl, hF121⟩
          refine ⟨_, rfl, ?_⟩
          have hC123 := hC117.call hF121
          have hf124 := whAt_fr hf118 hF121 (by simp)
          refine WL.runs 3 [(96, .bool (((([(key, later)] : List (Int × Int)) : List (Int × Int)).length : Int) == 1)), (95, .bool (((([(key, later)] : List (Int × Int)) : List (Int × Int)).length : Int) == 1)), (94, .bool (((([(key, later)] : List (Int × Int)) : List (Int × Int)).length : Int) == 1))] (fun _ => by kernel_rfl) ?_
          refine WL.know 96 (.bool (((([(key, later)] : List (Int × Int)) : List (Int × Int)).length : Int) == 1)) (.bool true) rfl (congrArg Value.bool (by simp)) ?_
          refine WL.runs 3 [(99, .int .i64 (IntKind.i64.wrap (later - 1))), (98, .int .i64 later), (97, .pointer (some ⟨p25, 0, none⟩))] (fun _ => by kernel_rfl) ?_
          refine WL.recast (show (.int .i64 (IntKind.i64.wrap (later - 1)) : Value) = .int .i64 (later - 1) from by rw [wrap_in_i64 (later - 1) (by omega) (by omega)]) ?_
          refine WL.call rfl rfl rfl rfl rfl (by kernel_rfl) (Due_to F111 p25 7 ([(key, later)] : List (Int × Int)) 0 (later - 1) w122 ([] : List Int) ([(key, later)] : List (Int × Int)) (later - 1) (dueK_none (fun t_ ht_ => by simp only [List.mem_singleton] at ht_; subst ht_; dsimp only; omega)) (rfl) (dueH_now (by omega) (by omega)) hf124 (by omega) (by omega) (by omega) (fun t_ ht_ => by simp only [List.mem_singleton] at ht_; subst ht_; dsimp only; omega) (by simp)) ?_
          rintro _ w132 ⟨v125, F126, rfl, hF127, hT128, hsub129, ho130, hd131⟩
          have hC133 := hC123.callFN 0 rfl hF127 hsub129 (whAt_lt hT128) (own_ge ho130) (own_lt ho130) (fun x_ hx_ h_ => hd131 x_ h_ hx_)
          obtain ⟨A134, c135, rfl, hle136⟩ := own_form ho130
          have ho137 := own_base (b' := 0) ho130 (fun _ _ => Nat.zero_le _)
          refine ⟨_, rfl, ?_⟩
          refine WL.runs 4 [(104, .bool ((([] : List Int).length : Int) == 0)), (103, .bool ((([] : List Int).length : Int) == 0)), (102, .bool ((([] : List Int).length : Int) == 0)), (101, .int .i64 (([] : List Int).length : Int))] (fun _ => by kernel_rfl) ?_
          refine WL.know 104 (.bool ((([] : List Int).length : Int) == 0)) (.bool true) rfl (congrArg Value.bool (by simp)) ?_
          refine WL.runs 2 [(106, .int .i64 later), (105, .pointer (some ⟨p25, 0, none⟩))] (fun _ => by kernel_rfl) ?_
          refine WL.call rfl rfl rfl rfl rfl (by kernel_rfl) (Due_to F126 p25 7 ([(key, later)] : List (Int × Int)) (later - 1) later w132 ([key] : List Int) ([] : List (Int × Int)) later (due_one (by omega)) (can_one _ _) (dueH_now (by omega) (by omega)) hT128 (by omega) (by omega) (by omega) (fun t_ ht_ => by simp only [List.mem_singleton] at ht_; subst ht_; dsimp only; omega) (by simp)) ?_
          rintro _ w146 ⟨v139, F140, rfl, hF141, hT142, hsub143, ho144, hd145⟩
          have hC147 := hC133.callFN 0 rfl hF141 hsub143 (whAt_lt hT142) (own_ge ho144) (own_lt ho144) (fun x_ hx_ h_ => hd145 x_ h_ hx_)
          obtain ⟨A148, c149, rfl, hle150⟩ := own_form ho144
          have ho151 := own_base (b' := 0) ho144 (fun _ _ => Nat.zero_le _)
          refine ⟨_, rfl, ?_⟩
          have ho152 := own_fr ho137 hF141 (hC133.disj 1 0 rfl rfl (by decide))
          refine WL.runs 1 [(108, .int .i64 key)] (fun _ => by kernel_rfl) ?_
          refine WL.newM hC147 (fun b => .slice (some ⟨b, 0, none⟩) 1 1) (.cells #[.int .i64 key] 3) 109 (fun _ => by kernel_rfl) (fun g154 w155 hb158 hF156 hC157 => ?_)
          have hf159 := whAt_fr hT142 hF156 (by simp)
          have ho160 := own_fr ho152 hF156 (by simp)
          have ho161 := own_fr ho151 hF156 (by simp)
          refine WL.call rfl rfl rfl rfl rfl (by kernel_rfl) (Ints_n A148 (some ⟨g154, 0, none⟩) (([key] : List Int).length) c149 1 1 ([key] : List Int) ([key] : List Int) w155 (own_rd ho161 (Go.Tw.encI_len _) (by decide)) (own_count (Go.Tw.encI_len _) (by decide) ho161) (by rw [own_count (Go.Tw.encI_len _) (by decide) ho161]; exact own_max ho161) (Rd.blk (hC157.get 2 rfl) (Go.Tw.encI_len _) rfl) rfl (by simp)) ?_
          rintro _ w163 ⟨rfl, hF162⟩
          refine ⟨_, rfl, ?_⟩
          have hC164 := hC157.call hF162
          have hf165 := whAt_fr hf159 hF162 (by simp)
          have ho166 := own_fr ho160 hF162 (by simp)
          have ho167 := own_fr ho161 hF162 (by simp)
          refine WL.runs 2 [(8, .bool (decide (([key] : List Int) = ([key] : List Int)))), (111, .bool (decide (([key] : List Int) = ([key] : List Int))))] (fun _ => by kernel_rfl) ?_
          refine WL.done rfl ?_
          refine QX.then_normal (hK120 _ _ ?_)
          refine WC.ret ?_
          refine (hret _ _ _ rfl ?_).1
          clear hN hret hret' hK120 hK114 hK100 hK98 hK52 hK50 hK36 hK34 hK24 hK13 hK11 hK6 hK4 hK2
          exact ⟨congrArg Ending.returned (congrArg Value.bool (by first | rfl | (simp; done) | (simp [lookL]; done))), hC164.fr⟩

theorem WheelGone_ct (key a later : Int) (cancel : Bool) (w : World) : Calls Try.prog 7 #[.agg #[.int .i64 key, .int .i64 a, .int .i64 later, .bool cancel]] w fun e w' => e = .returned (.bool true) ∧ Fr w w' [] := by
  refine enterD (n := 12) Try.func7 rfl rfl (Nat.le_of_ble_eq_true rfl) ?_
  intro Q0 hN hret hret'
  have hC := Cx.start w
  refine WC.seq (fun K1 hK2 => ?_)
  refine WC.region ?_
  refine WL.newM hC (fun b => .pointer (some ⟨b, 0, none⟩)) (.cells #[.int .i64 key, .int .i64 a, .int .i64 later, .bool cancel] 55) 1 (fun _ => by kernel_rfl) (fun g3 w4 hb7 hF5 hC6 => ?_)
  refine WL.runs 1 [(2, .bool false)] (fun _ => by kernel_rfl) ?_
  refine WL.done rfl ?_
  refine QX.then_normal (hK2 _ _ ?_)
  refine WC.seq (fun K8 hK9 => ?_)
  refine WC.region ?_
  refine WL.runs 1 [(3, .pointer (some ⟨g3, 0, none⟩))] (fun _ => by kernel_rfl) ?_
  refine WL.load 3 (.pointer (some ⟨g3, 0, none⟩)) (.int .i64 key) 4 (by kernel_rfl) (run_ld (hC6.get 0 rfl) rfl) ?_
  refine WL.runs 1 [(5, .pointer (some ⟨g3, 1, none⟩))] (fun _ => by kernel_rfl) ?_
  refine WL.load 3 (.pointer (some ⟨g3, 1, none⟩)) (.int .i64 a) 6 (by kernel_rfl) (run_ld (hC6.get 0 rfl) rfl) ?_
  refine WL.runs 1 [(7, .pointer (some ⟨g3, 2, none⟩))] (fun _ => by kernel_rfl) ?_
  refine WL.load 3 (.pointer (some ⟨g3, 2, none⟩)) (.int .i64 later) 8 (by kernel_rfl) (run_ld (hC6.get 0 rfl) rfl) ?_
  refine WL.runs 1 [(9, .pointer (some ⟨g3, 3, none⟩))] (fun _ => by kernel_rfl) ?_
  refine WL.load 4 (.pointer (some ⟨g3, 3, none⟩)) (.bool cancel) 10 (by kernel_rfl) (run_ld (hC6.get 0 rfl) rfl) ?_
  refine WL.call rfl rfl rfl rfl rfl (by kernel_rfl) (cancels_ct key a later cancel w4) ?_
  rintro _ w11 ⟨rfl, hF10⟩
  refine ⟨_, rfl, ?_⟩
  have hC12 := hC6.call hF10
  refine WL.runs 1 [(2, .bool true)] (fun _ => by kernel_rfl) ?_
  refine WL.done rfl ?_
  refine QX.then_normal (hK9 _ _ ?_)
  refine WC.ret ?_
  refine (hret _ _ _ rfl ?_).1
  clear hN hret hret' hK9 hK2
  exact ⟨rfl, hC12.fr⟩

end Go.Proofs.Ytkafccgbagbncaa
