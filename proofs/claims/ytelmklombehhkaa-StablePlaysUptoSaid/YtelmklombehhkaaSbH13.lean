/- Contracts of functions of the program, each proved by a walk through its code; conditions stand in the statements. -/
import Derived.Test.YtelmklombehhkaaSbG13
namespace Go.Proofs.Ytelmklombehhkaa
set_option linter.unusedSimpArgs false
set_option linter.unusedVariables false
set_option linter.unusedSectionVars false
open Go Go.RowKit Go.Tw
set_option linter.unusedVariables false
set_option maxRecDepth 20000
set_option maxHeartbeats 2000000 in
theorem StableFull_ct (key : ByteArray) (A : Option Addr) (c : Nat) (row : List Int) (less : Int) (w : World) (hrow : Rd w 1 (Go.Tw.encI .u8) A row) (hbyt : byteL row) (hrc : row.length ≤ c) : Calls Try.prog 4 #[.string key, .slice A row.length c, .int .i64 less] w fun e w' => e = .returned (.bool true) ∧ Fr w w' [] := by
  refine enterD (n := 137) Try.func4 rfl rfl (Nat.le_of_ble_eq_true rfl) ?_
  intro Q0 hN hret hret'
  have hC := Cx.start w
  refine WC.seq (fun K1 hK2 => ?_)
  refine WC.region ?_
  refine WL.runs 1 [(6, .bool false)] (fun _ => by kernel_rfl) ?_
  refine WL.done rfl ?_
  refine QX.then_normal (hK2 _ _ ?_)
  refine WC.seq (fun K3 hK4 => ?_)
  refine WC.seq (fun K5 hK6 => ?_)
  refine WC.region ?_
  refine WL.call rfl rfl rfl rfl rfl (by kernel_rfl) (alive_ct w) ?_
  rintro _ w8 ⟨rfl, hF7⟩
  refine ⟨_, rfl, ?_⟩
  have hC9 := hC.call hF7
  refine WL.runs 1 [(16, .bool false)] (fun _ => by kernel_rfl) ?_
  refine WL.done rfl ?_
  refine QX.then_normal (hK6 _ _ ?_)
  refine WC.cond_false rfl ?_
  refine WC.skip ?_
  refine QX.then_normal (hK4 _ _ ?_)
  refine WC.seq (fun K10 hK11 => ?_)
  refine WC.seq (fun K12 hK13 => ?_)
  refine WC.region ?_
  refine WL.runs 4 [(20, .bool (decide ((key.size : Int) < 1))), (19, .bool (decide ((key.size : Int) < 1))), (18, .int .i64 (key.size : Int)), (17, .string key)] (fun _ => by kernel_rfl) ?_
  refine WL.test_at 20 (decide ((key.size : Int) < 1)) rfl (fun t14b => ?_) (fun t14b => ?_)
  · -- (key.size : Int) < 1: true
    have t14 : (key.size : Int) < 1 := by have q_ := of_decide_eq_true t14b; omega
    refine WL.runs 9 [(29, .bool true), (28, undef), (27, undef), (26, undef), (25, .bool true), (24, .bool true), (23, undef), (22, undef), (21, undef)] (fun _ => by kernel_rfl) ?_
    refine WL.done rfl ?_
    refine QX.then_normal (hK13 _ _ ?_)
    refine WC.cond_true rfl ?_
    refine WC.seq (fun K15 hK16 => ?_)
    refine WC.region ?_
    refine WL.call rfl rfl rfl rfl rfl (by kernel_rfl) (New_ct 1048576 w8 (by omega) (by omega)) ?_
    rintro _ w20 ⟨p17, F18, rfl, hF19, hT22, hge23⟩
    have hC21 := hC9.callN hF19 hge23 (stAt_lt hT22)
    refine ⟨_, rfl, ?_⟩
    refine WL.runs 5 [(8, .nilIface), (7, .pointer (some ⟨p17, 0, none⟩)), (33, .nilIface), (32, .pointer (some ⟨p17, 0, none⟩)), (30, .tuple #[.pointer (some ⟨p17, 0, none⟩), .nilIface])] (fun _ => by kernel_rfl) ?_
    refine WL.done rfl ?_
    refine QX.then_normal (hK16 _ _ ?_)
    refine WC.seq (fun K25 hK26 => ?_)
    refine WC.region ?_
    refine WL.runs 11 [(44, .bool (decide ((row.length : Int) > 65536))), (43, .bool (decide ((row.length : Int) > 65536))), (42, .int .i64 (row.length : Int)), (41, .slice A row.length c), (40, .bool true), (39, .bool true), (38, .bool true), (37, .pointer (some ⟨p17, 0, none⟩)), (36, .bool true), (35, .bool true), (34, .nilIface)] (fun _ => by kernel_rfl) ?_
    refine WL.test_at 44 (decide ((row.length : Int) > 65536)) rfl (fun t27b => ?_) (fun t27b => ?_)
    · -- (row.length : Int) > 65536: true
      have t27 : (65536 : Int) < (row.length : Int) := by have q_ := of_decide_eq_true t27b; omega
      refine WL.runs 10 [(6, .bool true), (53, .bool true), (52, .bool true), (51, undef), (50, undef), (49, undef), (48, undef), (47, undef), (46, undef), (45, undef)] (fun _ => by kernel_rfl) ?_
      refine WL.done rfl ?_
      refine QX.then_normal (hK26 _ _ ?_)
      refine WC.ret ?_
      refine QX.then_ret ?_
      refine (hret _ _ _ rfl ?_).1
      clear hN hret hret' hK26 hK16 hK13 hK11 hK6 hK4 hK2
      exact ⟨rfl, hC21.fr⟩
    · -- (row.length : Int) > 65536: false
      have t27 : (row.length : Int) ≤ 65536 := by have q_ := of_decide_eq_false t27b; omega
      refine WL.runs 3 [(47, .slice A row.length c), (46, .string key), (45, .pointer (some ⟨p17, 0, none⟩))] (fun _ => by kernel_rfl) ?_
      refine WL.newM hC21 (fun b => .slice (some ⟨b, 0, none⟩) 1 1) (.cells #[.slice A row.length c] 22) 48 (fun _ => by kernel_rfl) (fun g28 w29 hb32 hF30 hC31 => ?_)
      have hf33 := stAt_fr hT22 hF30 (by simp)
      have hr34 : ∀ r_ ∈ ([(⟨A, row.length, c, row⟩ : BRow)] : List BRow), rowAt w29 r_ := by
        intro r_ hr_; simp only [List.mem_cons, List.not_mem_nil, or_false] at hr_
        rcases hr_ with rfl
        · exact ⟨(Rd.fr hrow hC31.fr), (by first | rfl | assumption | (simp; done) | (simp; omega)), hbyt⟩
      refine WL.call rfl rfl rfl rfl rfl (by kernel_rfl) (Put_no F18 p17 [] [] 1048576 key (some ⟨g28, 0, none⟩) 1 [(⟨A, row.length, c, row⟩ : BRow)] w29 hf33 (Rd.blk (hC31.get 0 rfl) cellB_len rfl) hr34 (by simp) 9 (by decide) (putE_form (by omega))) ?_
      rintro _ w36 ⟨F39, rfl, hF35, hT38, hsub40⟩
      have hT38' : stAt w36 F39 p17 [] [] 1048576 := hT38
      have hC37 := hC31.callF 0 rfl hF35 hsub40 (stAt_lt hT38')
      refine ⟨_, rfl, ?_⟩
      refine WL.runs 5 [(6, .bool true), (53, .bool true), (52, .bool true), (51, .bool true), (50, .iface 38 (.int .i64 9))] (fun _ => by kernel_rfl) ?_
      refine WL.done rfl ?_
      refine QX.then_normal (hK26 _ _ ?_)
      refine WC.ret ?_
      refine QX.then_ret ?_
      refine (hret _ _ _ rfl ?_).1
      clear hN hret hret' hK26 hK16 hK13 hK11 hK6 hK4 hK2
      exact ⟨rfl, hC37.fr⟩
  · -- (key.size : Int) < 1: false
    have t14 : (1 : Int) ≤ (key.size : Int) := by have q_ := of_decide_eq_false t14b; omega
    refine WL.runs 5 [(25, .bool (decide ((key.size : Int) > 64))), (24, .bool (decide ((key.size : Int) > 64))), (23, .bool (decide ((key.size : Int) > 64))), (22, .int .i64 (key.size : Int)), (21, .string key)] (fun _ => by kernel_rfl) ?_
    refine WL.test_at 25 (decide ((key.size : Int) > 64)) rfl (fun t41b => ?_) (fun t41b => ?_)
    · -- (key.size : Int) > 64: true
      have t41 : (64 : Int) < (key.size : Int) := by have q_ := of_decide_eq_true t41b; omega
      refine WL.runs 4 [(29, .bool true), (28, undef), (27, undef), (26, undef)] (fun _ => by kernel_rfl) ?_
      refine WL.done rfl ?_
      refine QX.then_normal (hK13 _ _ ?_)
      refine WC.cond_true rfl ?_
      refine WC.seq (fun K42 hK43 => ?_)
      refine WC.region ?_
      refine WL.call rfl rfl rfl rfl rfl (by kernel_rfl) (New_ct 1048576 w8 (by omega) (by omega)) ?_
      rintro _ w47 ⟨p44, F45, rfl, hF46, hT49, hge50⟩
      have hC48 := hC9.callN hF46 hge50 (stAt_lt hT49)
      refine ⟨_, rfl, ?_⟩
      refine WL.runs 5 [(8, .nilIface), (7, .pointer (some ⟨p44, 0, none⟩)), (33, .nilIface), (32, .pointer (some ⟨p44, 0, none⟩)), (30, .tuple #[.pointer (some ⟨p44, 0, none⟩), .nilIface])] (fun _ => by kernel_rfl) ?_
      refine WL.done rfl ?_
      refine QX.then_normal (hK43 _ _ ?_)
      refine WC.seq (fun K52 hK53 => ?_)
      refine WC.region ?_
      refine WL.runs 11 [(44, .bool (decide ((row.length : Int) > 65536))), (43, .bool (decide ((row.length : Int) > 65536))), (42, .int .i64 (row.length : Int)), (41, .slice A row.length c), (40, .bool true), (39, .bool true), (38, .bool true), (37, .pointer (some ⟨p44, 0, none⟩)), (36, .bool true), (35, .bool true), (34, .nilIface)] (fun _ => by kernel_rfl) ?_
      refine WL.test_at 44 (decide ((row.length : Int) > 65536)) rfl (fun t54b => ?_) (fun t54b => ?_)
      · -- (row.length : Int) > 65536: true
        have t54 : (65536 : Int) < (row.length : Int) := by have q_ := of_decide_eq_true t54b; omega
        refine WL.runs 10 [(6, .bool true), (53, .bool true), (52, .bool true), (51, undef), (50, undef), (49, undef), (48, undef), (47, undef), (46, undef), (45, undef)] (fun _ => by kernel_rfl) ?_
        refine WL.done rfl ?_
        refine QX.then_normal (hK53 _ _ ?_)
        refine WC.ret ?_
        refine QX.then_ret ?_
        refine (hret _ _ _ rfl ?_).1
        clear hN hret hret' hK53 hK43 hK13 hK11 hK6 hK4 hK2
        exact ⟨rfl, hC48.fr⟩
      · -- (row.length : Int) > 65536: false
        have t54 : (row.length : Int) ≤ 65536 := by have q_ := of_decide_eq_false t54b; omega
        refine WL.runs 3 [(47, .slice A row.length c), (46, .string key), (45, .pointer (some ⟨p44, 0, none⟩))] (fun _ => by kernel_rfl) ?_
        refine WL.newM hC48 (fun b => .slice (some ⟨b, 0, none⟩) 1 1) (.cells #[.slice A row.length c] 22) 48 (fun _ => by kernel_rfl) (fun g55 w56 hb59 hF57 hC58 => ?_)
        have hf60 := stAt_fr hT49 hF57 (by simp)
        have hr61 : ∀ r_ ∈ ([(⟨A, row.length, c, row⟩ : BRow)] : List BRow), rowAt w56 r_ := by
          intro r_ hr_; simp only [List.mem_cons, List.not_mem_nil, or_false] at hr_
          rcases hr_ with rfl
          · exact ⟨(Rd.fr hrow hC58.fr), (by first | rfl | assumption | (simp; done) | (simp; omega)), hbyt⟩
        refine WL.call rfl rfl rfl rfl rfl (by kernel_rfl) (Put_no F45 p44 [] [] 1048576 key (some ⟨g55, 0, none⟩) 1 [(⟨A, row.length, c, row⟩ : BRow)] w56 hf60 (Rd.blk (hC58.get 0 rfl) cellB_len rfl) hr61 (by simp) 9 (by decide) (putE_form (by omega))) ?_
        rintro _ w63 ⟨F66, rfl, hF62, hT65, hsub67⟩
        have hT65' : stAt w63 F66 p44 [] [] 1048576 := hT65
        have hC64 := hC58.callF 0 rfl hF62 hsub67 (stAt_lt hT65')
        refine ⟨_, rfl, ?_⟩
        refine WL.runs 5 [(6, .bool true), (53, .bool true), (52, .bool true), (51, .bool true), (50, .iface 38 (.int .i64 9))] (fun _ => by kernel_rfl) ?_
        refine WL.done rfl ?_
        refine QX.then_normal (hK53 _ _ ?_)
        refine WC.ret ?_
        refine QX.then_ret ?_
        refine (hret _ _ _ rfl ?_).1
        clear hN hret hret' hK53 hK43 hK13 hK11 hK6 hK4 hK2
        exact ⟨rfl, hC64.fr⟩
    · -- (key.size : Int) > 64: false
      have t41 : (key.size : Int) ≤ 64 := by have q_ := of_decide_eq_false t41b; omega
      refine WL.runs 4 [(29, .bool (decide ((row.length : Int) > 65536))), (28, .bool (decide ((row.length : Int) > 65536))), (27, .int .i64 (row.length : Int)), (26, .slice A row.length c)] (fun _ => by kernel_rfl) ?_
      refine WL.done rfl ?_
      refine QX.then_normal (hK13 _ _ ?_)
      refine WC.test_at 29 (decide ((row.length : Int) > 65536)) rfl (fun t68b => ?_) (fun t68b => ?_)
      · -- (row.length : Int) > 65536: true
        have t68 : (65536 : Int) < (row.length : Int) := by have q_ := of_decide_eq_true t68b; omega
        refine WC.cond_true rfl ?_
        refine WC.seq (fun K69 hK70 => ?_)
        refine WC.region ?_
        refine WL.call rfl rfl rfl rfl rfl (by kernel_rfl) (New_ct 1048576 w8 (by omega) (by omega)) ?_
        rintro _ w74 ⟨p71, F72, rfl, hF73, hT76, hge77⟩
        have hC75 := hC9.callN hF73 hge77 (stAt_lt hT76)
        refine ⟨_, rfl, ?_⟩
        refine WL.runs 5 [(8, .nilIface), (7, .pointer (some ⟨p71, 0, none⟩)), (33, .nilIface), (32, .pointer (some ⟨p71, 0, none⟩)), (30, .tuple #[.pointer (some ⟨p71, 0, none⟩), .nilIface])] (fun _ => by kernel_rfl) ?_
        refine WL.done rfl ?_
        refine QX.then_normal (hK70 _ _ ?_)
        refine WC.seq (fun K79 hK80 => ?_)
        refine WC.region ?_
        refine WL.runs 11 [(44, .bool (decide ((row.length : Int) > 65536))), (43, .bool (decide ((row.length : Int) > 65536))), (42, .int .i64 (row.length : Int)), (41, .slice A row.length c), (40, .bool true), (39, .bool true), (38, .bool true), (37, .pointer (some ⟨p71, 0, none⟩)), (36, .bool true), (35, .bool true), (34, .nilIface)] (fun _ => by kernel_rfl) ?_
        refine WL.know 44 (.bool (decide ((row.length : Int) > 65536))) (.bool true) rfl (congrArg Value.bool (by exact t68b)) ?_
        refine WL.runs 10 [(6, .bool true), (53, .bool true), (52, .bool true), (51, undef), (50, undef), (49, undef), (48, undef), (47, undef), (46, undef), (45, undef)] (fun _ => by kernel_rfl) ?_
        refine WL.done rfl ?_
        refine QX.then_normal (hK80 _ _ ?_)
        refine WC.ret ?_
        refine QX.then_ret ?_
        refine (hret _ _ _ rfl ?_).1
        clear hN hret hret' hK80 hK70 hK13 hK11 hK6 hK4 hK2
        exact ⟨rfl, hC75.fr⟩
      · -- (row.length : Int) > 65536: false
        have t68 : (row.length : Int) ≤ 65536 := by have q_ := of_decide_eq_false t68b; omega
        refine WC.cond_false rfl ?_
        refine WC.skip ?_
        refine QX.then_normal (hK11 _ _ ?_)
        refine WC.seq (fun K81 hK82 => ?_)
        refine WC.region ?_
        refine WL.runs 5 [(58, .int .i64 (IntKind.i64.wrap ((key.size : Int) + (row.length : Int)))), (57, .int .i64 (row.length : Int)), (56, .slice A row.length c), (55, .int .i64 (key.size : Int)), (54, .string key)] (fun _ => by kernel_rfl) ?_
        refine WL.recast (show (.int .i64 (IntKind.i64.wrap ((key.size : Int) + (row.length : Int))) : Value) = .int .i64 ((key.size : Int) + (row.length : Int)) from by rw [wrap_in_i64 ((key.size : Int) + (row.length : Int)) (by omega) (by omega)]) ?_
        refine WL.runs 1 [(9, .int .i64 ((key.size : Int) + (row.length : Int)))] (fun _ => by kernel_rfl) ?_
        refine WL.done rfl ?_
        refine QX.then_normal (hK82 _ _ ?_)
        refine WC.seq (fun K83 hK84 => ?_)
        refine WC.region ?_
        refine WL.runs 1 [(60, .int .i64 ((key.size : Int) + (row.length : Int)))] (fun _ => by kernel_rfl) ?_
        refine WL.call rfl rfl rfl rfl rfl (by kernel_rfl) (New_ct ((key.size : Int) + (row.length : Int)) w8 (by omega) (by omega)) ?_
        rintro _ w88 ⟨p85, F86, rfl, hF87, hT90, hge91⟩
        have hC89 := hC9.callN hF87 hge91 (stAt_lt hT90)
        refine ⟨_, rfl, ?_⟩
        refine WL.runs 5 [(11, .nilIface), (10, .pointer (some ⟨p85, 0, none⟩)), (63, .nilIface), (62, .pointer (some ⟨p85, 0, none⟩)), (59, .tuple #[.pointer (some ⟨p85, 0, none⟩), .nilIface])] (fun _ => by kernel_rfl) ?_
        refine WL.done rfl ?_
        refine QX.then_normal (hK84 _ _ ?_)
        refine WC.seq (fun K93 hK94 => ?_)
        refine WC.region ?_
        refine WL.runs 2 [(66, .int .i64 (IntKind.i64.wrap (((key.size : Int) + (row.length : Int)) - 1))), (65, .int .i64 ((key.size : Int) + (row.length : Int)))] (fun _ => by kernel_rfl) ?_
        refine WL.recast (show (.int .i64 (IntKind.i64.wrap (((key.size : Int) + (row.length : Int)) - 1)) : Value) = .int .i64 (((key.size : Int) + (row.length : Int)) - 1) from by rw [wrap_in_i64 (((key.size : Int) + (row.length : Int)) - 1) (by omega) (by omega)]) ?_
        refine WL.call rfl rfl rfl rfl rfl (by kernel_rfl) (New_ct (((key.size : Int) + (row.length : Int)) - 1) w88 (by omega) (by omega)) ?_
        rintro _ w98 ⟨p95, F96, rfl, hF97, hT100, hge101⟩
        have hC99 := hC89.callN hF97 hge101 (stAt_lt hT100)
        refine ⟨_, rfl, ?_⟩
        have hf102 := stAt_fr hT90 hF97 (by simp)
        refine WL.runs 5 [(13, .nilIface), (12, .pointer (some ⟨p95, 0, none⟩)), (69, .nilIface), (68, .pointer (some ⟨p95, 0, none⟩)), (64, .tuple #[.pointer (some ⟨p95, 0, none⟩), .nilIface])] (fun _ => by kernel_rfl) ?_
        refine WL.done rfl ?_
        refine QX.then_normal (hK94 _ _ ?_)
        refine WC.seq (fun K104 hK105 => ?_)
        refine WC.seq (fun K106 hK107 => ?_)
        refine WC.region ?_
        refine WL.runs 14 [(83, .bool false), (82, .bool false), (81, .pointer (some ⟨p95, 0, none⟩)), (80, .bool false), (79, .bool false), (78, .bool false), (77, .pointer (some ⟨p85, 0, none⟩)), (76, .bool false), (75, .bool false), (74, .bool false), (73, .nilIface), (72, .bool false), (71, .bool false), (70, .nilIface)] (fun _ => by kernel_rfl) ?_
        refine WL.done rfl ?_
        refine QX.then_normal (hK107 _ _ ?_)
        refine WC.cond_false rfl ?_
        refine WC.skip ?_
        refine QX.then_normal (hK105 _ _ ?_)
        refine WC.seq (fun K108 hK109 => ?_)
        refine WC.region ?_
        obtain ⟨u, hu, hu0⟩ : ∃ u : Int, IntKind.u64.wrap (less) = u ∧ (0 ≤ u ∧ u ≤ 18446744073709551615) := ⟨_, rfl, wrap_u64_span _⟩
        refine WL.runs 2 [(85, .int .u64 (IntKind.u64.wrap (less))), (84, .int .i64 less)] (fun _ => by kernel_rfl) ?_
        refine WL.recast (show (.int .u64 (IntKind.u64.wrap (less)) : Value) = .int .u64 u from by rw [hu]) ?_
        refine WL.runs 3 [(88, .int .i64 (IntKind.i64.wrap ((row.length : Int) + 1))), (87, .int .i64 (row.length : Int)), (86, .slice A row.length c)] (fun _ => by kernel_rfl) ?_
        refine WL.recast (show (.int .i64 (IntKind.i64.wrap ((row.length : Int) + 1)) : Value) = .int .i64 ((row.length : Int) + 1) from by rw [wrap_in_i64 ((row.length : Int) + 1) (by omega) (by omega)]) ?_
        refine WL.runs 1 [(89, .int .u64 (IntKind.u64.wrap ((row.length : Int) + 1)))] (fun _ => by kernel_rfl) ?_
        refine WL.recast (show (.int .u64 (IntKind.u64.wrap ((row.length : Int) + 1)) : Value) = .int .u64 ((row.length + 1 : Nat) : Int) from congrArg (Value.int .u64) (by rw [wrap_in_u64 _ (by omega) (by omega)]; omega)) ?_
        have hr110 : ∀ w_, Sem.run Try.prog (do eqGuard .rem 39 (Operand.tmp 85) (Operand.tmp 89) (.int .u64 u) (.int .u64 ((row.length + 1 : Nat) : Int)); binOp .rem 39 (.int .u64 u) (.int .u64 ((row.length + 1 : Nat) : Int))) w_ = .ok (.int .u64 (Int.tmod u ((row.length + 1 : Nat) : Int))) w_ := fun w_ => (run_rem (by omega))
        refine WL.sem (do eqGuard .rem 39 (Operand.tmp 85) (Operand.tmp 89) (.int .u64 u) (.int .u64 ((row.length + 1 : Nat) : Int)); binOp .rem 39 (.int .u64 u) (.int .u64 ((row.length + 1 : Nat) : Int))) 90 (.int .u64 (Int.tmod u ((row.length + 1 : Nat) : Int))) (by kernel_rfl) (hr110 _) ?_
        obtain ⟨q, hq4, hq5⟩ := mod_nat (u := u) (n := row.length + 1) hu0.1 (by omega)
        refine WL.recast (show (.int .u64 (Int.tmod u ((row.length + 1 : Nat) : Int)) : Value) = .int .u64 (q : Int) from by rw [hq4]) ?_
        refine WL.runs 1 [(91, .int .i64 (IntKind.i64.wrap ((q : Int))))] (fun _ => by kernel_rfl) ?_
        refine WL.recast (show (.int .i64 (IntKind.i64.wrap ((q : Int))) : Value) = .int .i64 (q : Int) from by rw [wrap_in_i64 _ (by omega) (by omega)]) ?_
        refine WL.runs 1 [(14, .int .i64 (q : Int))] (fun _ => by kernel_rfl) ?_
        refine WL.done rfl ?_
        refine QX.then_normal (hK109 _ _ ?_)
        refine WC.seq (fun K111 hK112 => ?_)
        refine WC.drawC hC99 (F86 ++ F96) (by kernel_rfl) (fun w113 hF114 hC115 hS116 => ?_)
        have hf117 := stAt_fr hf102 hF114 (by simp)
        have hf118 := stAt_fr hT100 hF114 (by simp)
        refine WD.pure (NoPanic.then hN) 0 92 (.pointer (some ⟨p85, 0, none⟩)) (by kernel_rfl) (fun _ => by kernel_rfl) hS116 ?_
        refine WD.pure (NoPanic.then hN) 1 93 (.string key) (by kernel_rfl) (fun _ => by kernel_rfl) hS116 ?_
        refine WD.pure (NoPanic.then hN) 2 94 (.slice A row.length c) (by kernel_rfl) (fun _ => by kernel_rfl) hS116 ?_
        refine WD.new 3 (fun b => .slice (some ⟨b, 0, none⟩) 1 1) (.cells #[.slice A row.length c] 22) (by kernel_rfl) rfl rfl rfl rfl rfl (fun _ => by kernel_rfl) (fun g119 w120 hb123 hl124 hF121 ho125 => ?_)
        have hC122 := hC115.callB hF121 hb123 ho125
        have hS126 := hS116.trans hF121 (by simp)
        refine ⟨hS126, ?_⟩
        have hf127 := stAt_fr hf117 hF121 (by simp)
        have hf128 := stAt_fr hf118 hF121 (by simp)
        have hr129 : ∀ r_ ∈ ([(⟨A, row.length, c, row⟩ : BRow)] : List BRow), rowAt w120 r_ := by
          intro r_ hr_; simp only [List.mem_cons, List.not_mem_nil, or_false] at hr_
          rcases hr_ with rfl
          · exact ⟨(Rd.fr hrow hC122.fr), (by first | rfl | assumption | (simp; done) | (simp; omega)), hbyt⟩
        refine WD.call 4 (by kernel_rfl) rfl rfl rfl rfl rfl (by kernel_rfl) (Put_yes F86 p85 [] [] ((key.size : Int) + (row.length : Int)) key (some ⟨g119, 0, none⟩) 1 [(⟨A, row.length, c, row⟩ : BRow)] w120 hf127 (Rd.blk (hC122.get 0 rfl) cellB_len rfl) hr129 (by simp) (putE_yes (by omega) (by omega) (by rw [cat1, del0, used0]; omega))) ?_
        rintro _ w131 ⟨F134, rfl, hF130, hT133, hsub135⟩
        have hT133' : stAt w131 F134 p85 (putL [] key row) [] ((key.size : Int) + (row.length : Int)) := by
          have h_ := hT133
          rw [cat1] at h_
          exact h_
        have hC132 := hC122.callF 0 rfl hF130 hsub135 (stAt_lt hT133')
        have hge138 : ∀ x_ ∈ F86, x_ ∈ (F86 ++ F96) ∨ w113.heap.size ≤ x_ := fun x_ hx_ => .inl (by simp [hx_])
        have hge137 : ∀ x_ ∈ F134, x_ ∈ (F86 ++ F96) ∨ w113.heap.size ≤ x_ := fun x_ hx_ => (hsub135 x_ hx_).elim (hge138 x_) (fun h_ => .inr (Nat.le_trans hS126.size h_))
        have hS136 := hS126.trans hF130 hge138
        refine ⟨_, rfl, hS136, ?_⟩
        have hf139 := stAt_fr hf128 hF130 (hC122.disj 1 0 rfl rfl (by decide))
        refine WD.pure (NoPanic.then hN) 5 97 (.bool true) (by kernel_rfl) (fun _ => by kernel_rfl) hS136 ?_
        refine WD.pure (NoPanic.then hN) 6 98 (.bool true) (by kernel_rfl) (fun _ => by kernel_rfl) hS136 ?_
        refine WD.pure (NoPanic.then hN) 7 99 (.pointer (some ⟨p85, 0, none⟩)) (by kernel_rfl) (fun _ => by kernel_rfl) hS136 ?_
        refine WD.pure (NoPanic.then hN) 9 101 (.int .i64 ((key.size : Int) + (row.length : Int))) (by kernel_rfl) (fun _ => by kernel_rfl) hS136 ?_
        refine WD.call 8 (by kernel_rfl) rfl rfl rfl rfl rfl (by kernel_rfl) (Used_ct F134 p85 (putL [] key row) [] ((key.size : Int) + (row.length : Int)) w131 hT133') ?_
        rintro _ w141 ⟨rfl, hF140⟩
        have hS143 := hS136.trans hF140 (by simp)
        refine ⟨_, rfl, hS143, ?_⟩
        have hC142 := hC132.call hF140
        have hf144 := stAt_fr hT133' hF140 (by simp)
        have hf145 := stAt_fr hf139 hF140 (by simp)
        refine WD.pure (NoPanic.then hN) 10 102 (.bool ((usedL (putL [] key row) : Int) == ((key.size : Int) + (row.length : Int)))) (by kernel_rfl) (fun _ => by kernel_rfl) hS143 ?_
        refine WD.pure (NoPanic.then hN) 11 103 (.bool ((usedL (putL [] key row) : Int) == ((key.size : Int) + (row.length : Int)))) (by kernel_rfl) (fun _ => by kernel_rfl) hS143 ?_
        refine WD.pure (NoPanic.then hN) 12 104 (.bool ((usedL (putL [] key row) : Int) == ((key.size : Int) + (row.length : Int)))) (by kernel_rfl) (fun _ => by kernel_rfl) hS143 ?_
        refine WD.know 104 (.bool ((usedL (putL [] key row) : Int) == ((key.size : Int) + (row.length : Int)))) (.bool true) rfl (congrArg Value.bool (by rw [used_put1]; simp)) ?_
        refine WD.pure (NoPanic.then hN) 13 105 (.pointer (some ⟨p85, 0, none⟩)) (by kernel_rfl) (fun _ => by kernel_rfl) hS143 ?_
        refine WD.pure (NoPanic.then hN) 14 106 (.string key) (by kernel_rfl) (fun _ => by kernel_rfl) hS143 ?_
        refine WD.pure (NoPanic.then hN) 15 107 (.slice A row.length c) (by kernel_rfl) (fun _ => by kernel_rfl) hS143 ?_
        refine WD.pure (NoPanic.then hN) 16 108 (.int .i64 (q : Int)) (by kernel_rfl) (fun _ => by kernel_rfl) hS143 ?_
        have hb146 : q ≤ c := by omega
        refine WD.slc (NoPanic.then hN) 17 22 5 1 A A row.length c 0 q q c none (some (.int .i64 (q : Int))) 109 (by kernel_rfl) (by kernel_rfl) (by kernel_rfl) bnd.no (bnd.yes (by omega)) (by omega) hb146 (slcAt_pre _ _ _) (by first | rfl | omega) (by first | rfl | omega) hS143 ?_
        have hrd147 := Rd.slc hrow 0 q c hb146 (slcAt_pre _ _ _)
        refine WD.pure (NoPanic.then hN) 18 110 (.slice A row.length c) (by kernel_rfl) (fun _ => by kernel_rfl) hS143 ?_
        refine WD.pure (NoPanic.then hN) 19 111 (.int .i64 (q : Int)) (by kernel_rfl) (fun _ => by kernel_rfl) hS143 ?_
        obtain ⟨A148, hA149⟩ : ∃ A_, slcAt A q c 1 = A_ := ⟨_, rfl⟩
        have hb150 : row.length ≤ c := by omega
        refine WD.slc (NoPanic.then hN) 20 22 5 1 A A148 row.length c q row.length (row.length - q) (c - q) (some (.int .i64 (q : Int))) none 112 (by kernel_rfl) (by kernel_rfl) (by kernel_rfl) (bnd.yes (by omega)) bnd.no (by omega) hb150 hA149 (by first | rfl | omega) (by first | rfl | omega) hS143 ?_
        have hrd151 := Rd.slc hrow q row.length c hb150 hA149
        refine WD.new 21 (fun b => .slice (some ⟨b, 0, none⟩) 2 2) (.cells #[.slice A q c, .slice A148 (row.length - q) (c - q)] 22) (by kernel_rfl) rfl rfl rfl rfl rfl (fun _ => by kernel_rfl) (fun g152 w153 hb156 hl157 hF154 ho158 => ?_)
        have hC155 := hC142.callB hF154 hb156 ho158
        have hS159 := hS143.trans hF154 (by simp)
        refine ⟨hS159, ?_⟩
        have hf160 := stAt_fr hf144 hF154 (by simp)
        have hf161 := stAt_fr hf145 hF154 (by simp)
        have hr162 : ∀ r_ ∈ ([(⟨A, q, c, (row.take q).drop 0⟩ : BRow), (⟨A148, row.length - q, c - q, (row.take row.length).drop q⟩ : BRow)] : List BRow), rowAt w153 r_ := by
          intro r_ hr_; simp only [List.mem_cons, List.not_mem_nil, or_false] at hr_
          rcases hr_ with rfl | rfl
          · exact ⟨(Rd.fr hrd147 hC155.fr), (by first | rfl | assumption | (simp; done) | (simp; omega)), (byteL_sub hbyt _ _)⟩
          · exact ⟨(Rd.fr hrd151 hC155.fr), (by first | rfl | assumption | (simp; done) | (simp; omega)), (byteL_sub hbyt _ _)⟩
        refine WD.call 22 (by kernel_rfl) rfl rfl rfl rfl rfl (by kernel_rfl) (Put_yes F134 p85 (putL [] key row) [] ((key.size : Int) + (row.length : Int)) key (some ⟨g152, 0, none⟩) 2 [(⟨A, q, c, (row.take q).drop 0⟩ : BRow), (⟨A148, row.length - q, c - q, (row.take row.length).drop q⟩ : BRow)] w153 hf160 (Rd.blk (hC155.get 1 rfl) cellB_len rfl) hr162 (by simp) (putE_yes (by omega) (by omega) (by rw [cat2, cut_row, del_put1, used0]; omega))) ?_
        rintro _ w164 ⟨F167, rfl, hF163, hT166, hsub168⟩
        have hT166' : stAt w164 F167 p85 (putL (putL [] key row) key row) [] ((key.size : Int) + (row.length : Int)) := by
          have h_ := hT166
          rw [cat2, cut_row] at h_
          exact h_
        have hC165 := hC155.callF 0 rfl hF163 hsub168 (stAt_lt hT166')
        have hge170 : ∀ x_ ∈ F167, x_ ∈ (F86 ++ F96) ∨ w113.heap.size ≤ x_ := fun x_ hx_ => (hsub168 x_ hx_).elim (hge137 x_) (fun h_ => .inr (Nat.le_trans hS159.size h_))
        have hS169 := hS159.trans hF163 hge137
        refine ⟨_, rfl, hS169, ?_⟩
        have hf171 := stAt_fr hf161 hF163 (hC155.disj 1 0 rfl rfl (by decide))
        refine WD.pure (NoPanic.then hN) 23 115 (.bool true) (by kernel_rfl) (fun _ => by kernel_rfl) hS169 ?_
        refine WD.pure (NoPanic.then hN) 24 116 (.bool true) (by kernel_rfl) (fun _ => by kernel_rfl) hS169 ?_
        refine WD.pure (NoPanic.then hN) 25 117 (.bool true) (by kernel_rfl) (fun _ => by kernel_rfl) hS169 ?_
        refine WD.pure (NoPanic.then hN) 26 118 (.pointer (some ⟨p95, 0, none⟩)) (by kernel_rfl) (fun _ => by kernel_rfl) hS169 ?_
        refine WD.pure (NoPanic.then hN) 27 119 (.string key) (by kernel_rfl) (fun _ => by kernel_rfl) hS169 ?_
        refine WD.pure (NoPanic.then hN) 28 120 (.slice A row.length c) (by kernel_rfl) (fun _ => by kernel_rfl) hS169 ?_
        refine WD.pure (NoPanic.then hN) 31 123 (.iface 38 (.int .i64 5)) (by kernel_rfl) (fun _ => by kernel_rfl) hS169 ?_
        refine WD.new 29 (fun b => .slice (some ⟨b, 0, none⟩) 1 1) (.cells #[.slice A row.length c] 22) (by kernel_rfl) rfl rfl rfl rfl rfl (fun _ => by kernel_rfl) (fun g172 w173 hb176 hl177 hF174 ho178 => ?_)
        have hC175 := hC165.callB hF174 hb176 ho178
        have hS179 := hS169.trans hF174 (by simp)
        refine ⟨hS179, ?_⟩
        have hf180 := stAt_fr hT166' hF174 (by simp)
        have hf181 := stAt_fr hf171 hF174 (by simp)
        have hr182 : ∀ r_ ∈ ([(⟨A, row.length, c, row⟩ : BRow)] : List BRow), rowAt w173 r_ := by
          intro r_ hr_; simp only [List.mem_cons, List.not_mem_nil, or_false] at hr_
          rcases hr_ with rfl
          · exact ⟨(Rd.fr hrow hC175.fr), (by first | rfl | assumption | (simp; done) | (simp; omega)), hbyt⟩
        refine WD.call 30 (by kernel_rfl) rfl rfl rfl rfl rfl (by kernel_rfl) (Put_no F96 p95 [] [] (((key.size : Int) + (row.length : Int)) - 1) key (some ⟨g172, 0, none⟩) 1 [(⟨A, row.length, c, row⟩ : BRow)] w173 hf181 (Rd.blk (hC175.get 2 rfl) cellB_len rfl) hr182 (by simp) 5 (by decide) (putE_full (by omega) (by omega) (by rw [cat1, del0, used0]; omega))) ?_
        rintro _ w184 ⟨F187, rfl, hF183, hT186, hsub188⟩
        have hT186' : stAt w184 F187 p95 [] [] (((key.size : Int) + (row.length : Int)) - 1) := hT186
        have hC185 := hC175.callF 1 rfl hF183 hsub188 (stAt_lt hT186')
        have hge191 : ∀ x_ ∈ F96, x_ ∈ (F86 ++ F96) ∨ w113.heap.size ≤ x_ := fun x_ hx_ => .inl (by simp [hx_])
        have hge190 : ∀ x_ ∈ F187, x_ ∈ (F86 ++ F96) ∨ w113.heap.size ≤ x_ := fun x_ hx_ => (hsub188 x_ hx_).elim (hge191 x_) (fun h_ => .inr (Nat.le_trans hS179.size h_))
        have hS189 := hS179.trans hF183 hge191
        refine ⟨_, rfl, hS189, ?_⟩
        have hf192 := stAt_fr hf180 hF183 (hC175.disj 0 1 rfl rfl (by decide))
        refine WD.pure (NoPanic.then hN) 32 124 (.bool true) (by kernel_rfl) (fun _ => by kernel_rfl) hS189 ?_
        refine WD.pure (NoPanic.then hN) 33 125 (.bool true) (by kernel_rfl) (fun _ => by kernel_rfl) hS189 ?_
        refine WD.pure (NoPanic.then hN) 34 126 (.bool true) (by kernel_rfl) (fun _ => by kernel_rfl) hS189 ?_
        refine WD.pure (NoPanic.then hN) 35 127 (.pointer (some ⟨p95, 0, none⟩)) (by kernel_rfl) (fun _ => by kernel_rfl) hS189 ?_
        refine WD.call 36 (by kernel_rfl) rfl rfl rfl rfl rfl (by kernel_rfl) (Used_ct F187 p95 [] [] (((key.size : Int) + (row.length : Int)) - 1) w184 hT186') ?_
        rintro _ w194 ⟨rfl, hF193⟩
        have hS196 := hS189.trans hF193 (by simp)
        refine ⟨_, rfl, hS196, ?_⟩
        have hC195 := hC185.call hF193
        have hf197 := stAt_fr hf192 hF193 (by simp)
        have hf198 := stAt_fr hT186' hF193 (by simp)
        refine WD.pure (NoPanic.then hN) 37 129 (.bool ((usedL [] : Int) == 0)) (by kernel_rfl) (fun _ => by kernel_rfl) hS196 ?_
        refine WD.pure (NoPanic.then hN) 38 130 (.bool ((usedL [] : Int) == 0)) (by kernel_rfl) (fun _ => by kernel_rfl) hS196 ?_
        refine WD.pure (NoPanic.then hN) 39 131 (.bool ((usedL [] : Int) == 0)) (by kernel_rfl) (fun _ => by kernel_rfl) hS196 ?_
        refine WD.know 131 (.bool ((usedL [] : Int) == 0)) (.bool true) rfl (congrArg Value.bool (by simp [used0])) ?_
        refine WD.pure (NoPanic.then hN) 40 132 (.pointer (some ⟨p95, 0, none⟩)) (by kernel_rfl) (fun _ => by kernel_rfl) hS196 ?_
        refine WD.call 41 (by kernel_rfl) rfl rfl rfl rfl rfl (by kernel_rfl) (Keys_ct F187 p95 [] [] (((key.size : Int) + (row.length : Int)) - 1) w194 hf198) ?_
        rintro _ w201 ⟨v_, rfl, hF200, ho199⟩
        have hC202 := hC195.callN hF200 (own_ge ho199) (own_lt ho199)
        obtain ⟨A203, c204, rfl, hle205⟩ := own_form ho199
        have ho207 := own_base (b' := 0) ho199 (fun _ _ => Nat.zero_le _)
        have hS208 := hS196.trans hF200 (by simp)
        refine ⟨_, rfl, hS208, ?_⟩
        have hf209 := stAt_fr hf197 hF200 (by simp)
        have hf210 := stAt_fr hf198 hF200 (by simp)
        refine WD.pure (NoPanic.then hN) 42 134 (.int .i64 ((keysL []).length : Int)) (by kernel_rfl) (fun _ => by kernel_rfl) hS208 ?_
        refine WD.pure (NoPanic.then hN) 43 135 (.bool (((keysL []).length : Int) == 0)) (by kernel_rfl) (fun _ => by kernel_rfl) hS208 ?_
        refine WD.pure (NoPanic.then hN) 44 136 (.bool (((keysL []).length : Int) == 0)) (by kernel_rfl) (fun _ => by kernel_rfl) hS208 ?_
        refine WD.pure (NoPanic.then hN) 45 6 (.bool (((keysL []).length : Int) == 0)) (by kernel_rfl) (fun _ => by kernel_rfl) hS208 ?_
        refine WD.done (by kernel_rfl) ?_
        refine QX.then_normal (hK112 _ _ ?_)
        refine WC.ret ?_
        refine (hret _ _ _ rfl ?_).1
        clear hN hret hret' hK112 hK109 hK107 hK105 hK94 hK84 hK82 hK13 hK11 hK6 hK4 hK2
        exact ⟨congrArg (fun b_ => Ending.returned (Value.bool b_)) (show ((((keysL []).length : Int) == 0)) = true from by simp [keysL]), hC202.fr⟩

end Go.Proofs.Ytelmklombehhkaa
