/- Contracts of functions of the program, each proved by a walk through its code; conditions stand in the statements. -/
import Derived.Test.YtelmklombehhkaaSbE13
namespace Go.Proofs.Ytelmklombehhkaa
set_option linter.unusedSimpArgs false
set_option linter.unusedVariables false
set_option linter.unusedSectionVars false
open Go Go.RowKit Go.Tw
set_option linter.unusedVariables false
set_option maxRecDepth 20000
theorem err_eqlc (X Y : Operand) (c k : Int) (hk : k ≠ 0) (w : World) : Sem.run Try.prog (do eqGuard .eql 26 X Y (errV 38 c) (.iface 38 (.int .i64 k)); binOp .eql 26 (errV 38 c) (.iface 38 (.int .i64 k))) w = .ok (.bool (decide (c = k))) w := by
  unfold errV
  by_cases hc : c = 0
  · subst hc
    have : decide ((0 : Int) = k) = false := decide_eq_false (fun e => hk e.symm)
    rw [this]
    show Sem.run Try.prog (do eqGuard .eql 26 X Y .nilIface (.iface 38 (.int .i64 k)); binOp .eql 26 .nilIface (.iface 38 (.int .i64 k))) w = _
    cases X <;> cases Y <;> kernel_rfl
  · simp only [hc, if_false]; cases X <;> cases Y <;> kernel_rfl
theorem StableNone_ct (key : ByteArray) (A : Option Addr) (n c : Nat) (w : World) : Calls Try.prog 8 #[.string key, .slice A n c] w fun e w' => e = .returned (.bool true) ∧ Fr w w' [] := by
  refine enterD (n := 68) Try.func8 rfl rfl (Nat.le_of_ble_eq_true rfl) ?_
  intro Q0 hN hret hret'
  have hC := Cx.start w
  refine WC.seq (fun K1 hK2 => ?_)
  refine WC.region ?_
  refine WL.runs 1 [(4, .bool false)] (fun _ => by kernel_rfl) ?_
  refine WL.done rfl ?_
  refine QX.then_normal (hK2 _ _ ?_)
  refine WC.seq (fun K3 hK4 => ?_)
  refine WC.seq (fun K5 hK6 => ?_)
  refine WC.region ?_
  refine WL.call rfl rfl rfl rfl rfl (by kernel_rfl) (alive_ct w) ?_
  rintro _ w8 ⟨rfl, hF7⟩
  refine ⟨_, rfl, ?_⟩
  have hC9 := hC.call hF7
  refine WL.runs 1 [(11, .bool false)] (fun _ => by kernel_rfl) ?_
  refine WL.done rfl ?_
  refine QX.then_normal (hK6 _ _ ?_)
  refine WC.cond_false rfl ?_
  refine WC.skip ?_
  refine QX.then_normal (hK4 _ _ ?_)
  refine WC.seq (fun K10 hK11 => ?_)
  refine WC.region ?_
  refine WL.runs 1 [(5, .pointer none)] (fun _ => by kernel_rfl) ?_
  refine WL.done rfl ?_
  refine QX.then_normal (hK11 _ _ ?_)
  refine WC.seq (fun K12 hK13 => ?_)
  refine WC.region ?_
  refine WL.runs 3 [(14, .slice A n c), (13, .string key), (12, .pointer none)] (fun _ => by kernel_rfl) ?_
  refine WL.newM hC9 (fun b => .slice (some ⟨b, 0, none⟩) 1 1) (.cells #[.slice A n c] 22) 15 (fun _ => by kernel_rfl) (fun g14 w15 hb18 hF16 hC17 => ?_)
  refine WL.call rfl rfl rfl rfl rfl (by kernel_rfl) (Put_nil key (some ⟨g14, 0, none⟩) 1 1 w15) ?_
  rintro _ w20 ⟨rfl, hF19⟩
  refine ⟨_, rfl, ?_⟩
  have hC21 := hC17.call hF19
  refine WL.runs 1 [(6, errV 38 (if key.size = 0 ∨ 64 < key.size then 9 else 5))] (fun _ => by kernel_rfl) ?_
  refine WL.done rfl ?_
  refine QX.then_normal (hK13 _ _ ?_)
  refine WC.seq (fun K22 hK23 => ?_)
  refine WC.region ?_
  refine WL.runs 2 [(19, .string key), (18, .pointer none)] (fun _ => by kernel_rfl) ?_
  refine WL.call rfl rfl rfl rfl rfl (by kernel_rfl) (Get_nil key w20) ?_
  rintro _ w25 ⟨rfl, hF24⟩
  refine ⟨_, rfl, ?_⟩
  have hC26 := hC21.call hF24
  refine WL.runs 5 [(8, .iface 38 (.int .i64 6)), (7, .slice none 0 0), (22, .iface 38 (.int .i64 6)), (21, .slice none 0 0), (17, .tuple #[.slice none 0 0, .iface 38 (.int .i64 6)])] (fun _ => by kernel_rfl) ?_
  refine WL.done rfl ?_
  refine QX.then_normal (hK23 _ _ ?_)
  refine WC.seq (fun K27 hK28 => ?_)
  refine WC.region ?_
  refine WL.runs 1 [(9, .int .i64 5)] (fun _ => by kernel_rfl) ?_
  refine WL.done rfl ?_
  refine QX.then_normal (hK28 _ _ ?_)
  refine WC.seq (fun K29 hK30 => ?_)
  refine WC.seq (fun K31 hK32 => ?_)
  refine WC.region ?_
  refine WL.runs 4 [(26, .bool (decide ((key.size : Int) < 1))), (25, .bool (decide ((key.size : Int) < 1))), (24, .int .i64 (key.size : Int)), (23, .string key)] (fun _ => by kernel_rfl) ?_
  refine WL.test_at 26 (decide ((key.size : Int) < 1)) rfl (fun t33b => ?_) (fun t33b => ?_)
  · -- (key.size : Int) < 1: true
    have t33 : (key.size : Int) < 1 := by have q_ := of_decide_eq_true t33b; omega
    refine WL.runs 4 [(30, .bool true), (29, undef), (28, undef), (27, undef)] (fun _ => by kernel_rfl) ?_
    refine WL.done rfl ?_
    refine QX.then_normal (hK32 _ _ ?_)
    refine WC.cond_true rfl ?_
    refine WC.region ?_
    refine WL.runs 1 [(9, .int .i64 9)] (fun _ => by kernel_rfl) ?_
    refine WL.done rfl ?_
    refine QX.then_normal (hK30 _ _ ?_)
    refine WC.seq (fun K34 hK35 => ?_)
    refine WC.region ?_
    refine WL.runs 3 [(33, .iface 38 (.int .i64 9)), (32, .int .i64 9), (31, errV 38 (if key.size = 0 ∨ 64 < key.size then 9 else 5))] (fun _ => by kernel_rfl) ?_
    have hr36 : ∀ w_, Sem.run Try.prog (do eqGuard .eql 26 (Operand.tmp 31) (Operand.tmp 33) (errV 38 (if key.size = 0 ∨ 64 < key.size then 9 else 5)) (.iface 38 (.int .i64 9)); binOp .eql 26 (errV 38 (if key.size = 0 ∨ 64 < key.size then 9 else 5)) (.iface 38 (.int .i64 9))) w_ = .ok (.bool (decide ((if key.size = 0 ∨ 64 < key.size then 9 else 5) = (9 : Int)))) w_ := fun w_ => (err_eqlc _ _ (if key.size = 0 ∨ 64 < key.size then 9 else 5) 9 (by decide) _)
    refine WL.sem (do eqGuard .eql 26 (Operand.tmp 31) (Operand.tmp 33) (errV 38 (if key.size = 0 ∨ 64 < key.size then 9 else 5)) (.iface 38 (.int .i64 9)); binOp .eql 26 (errV 38 (if key.size = 0 ∨ 64 < key.size then 9 else 5)) (.iface 38 (.int .i64 9))) 34 (.bool (decide ((if key.size = 0 ∨ 64 < key.size then 9 else 5) = (9 : Int)))) (by kernel_rfl) (hr36 _) ?_
    refine WL.runs 1 [(35, .bool (decide ((if key.size = 0 ∨ 64 < key.size then 9 else 5) = (9 : Int))))] (fun _ => by kernel_rfl) ?_
    refine WL.know 35 (.bool (decide ((if key.size = 0 ∨ 64 < key.size then 9 else 5) = (9 : Int)))) (.bool true) rfl (congrArg Value.bool (by first | (rw [if_pos (by omega)]; rfl) | (rw [if_neg (by omega)]; rfl))) ?_
    refine WL.runs 7 [(42, .string key), (41, .pointer none), (40, .bool true), (39, .bool true), (38, .bool true), (37, .iface 38 (.int .i64 6)), (36, .iface 38 (.int .i64 6))] (fun _ => by kernel_rfl) ?_
    refine WL.newM hC26 (fun b => .slice (some ⟨b, 0, none⟩) 1 1) (.cells #[.string key] 9) 43 (fun _ => by kernel_rfl) (fun g37 w38 hb41 hF39 hC40 => ?_)
    refine WL.call rfl rfl rfl rfl rfl (by kernel_rfl) (Drop_nil (some ⟨g37, 0, none⟩) 1 1 w38) ?_
    rintro _ w43 ⟨rfl, hF42⟩
    refine ⟨_, rfl, ?_⟩
    have hC44 := hC40.call hF42
    refine WL.runs 4 [(48, .pointer none), (47, .bool true), (46, .bool true), (45, .bool true)] (fun _ => by kernel_rfl) ?_
    refine WL.call rfl rfl rfl rfl rfl (by kernel_rfl) (Keys_nil w43) ?_
    rintro _ w46 ⟨rfl, hF45⟩
    refine ⟨_, rfl, ?_⟩
    have hC47 := hC44.call hF45
    refine WL.runs 5 [(54, .pointer none), (53, .bool true), (52, .bool true), (51, .bool true), (50, .int .i64 0)] (fun _ => by kernel_rfl) ?_
    refine WL.call rfl rfl rfl rfl rfl (by kernel_rfl) (Used_nil w46) ?_
    rintro _ w49 ⟨rfl, hF48⟩
    refine ⟨_, rfl, ?_⟩
    have hC50 := hC47.call hF48
    refine WL.runs 4 [(59, .pointer none), (58, .bool true), (57, .bool true), (56, .bool true)] (fun _ => by kernel_rfl) ?_
    refine WL.call rfl rfl rfl rfl rfl (by kernel_rfl) (Sync_nil w49) ?_
    rintro _ w52 ⟨rfl, hF51⟩
    refine ⟨_, rfl, ?_⟩
    have hC53 := hC50.call hF51
    refine WL.runs 4 [(64, .pointer none), (63, .bool true), (62, .bool true), (61, .bool true)] (fun _ => by kernel_rfl) ?_
    refine WL.call rfl rfl rfl rfl rfl (by kernel_rfl) (Crash_nil w52) ?_
    rintro _ w55 ⟨rfl, hF54⟩
    refine ⟨_, rfl, ?_⟩
    have hC56 := hC53.call hF54
    refine WL.runs 3 [(4, .bool true), (67, .bool true), (66, .bool true)] (fun _ => by kernel_rfl) ?_
    refine WL.done rfl ?_
    refine QX.then_normal (hK35 _ _ ?_)
    refine WC.ret ?_
    refine (hret _ _ _ rfl ?_).1
    clear hN hret hret' hK35 hK32 hK30 hK28 hK23 hK13 hK11 hK6 hK4 hK2
    exact ⟨rfl, hC56.fr⟩
  · -- (key.size : Int) < 1: false
    have t33 : (1 : Int) ≤ (key.size : Int) := by have q_ := of_decide_eq_false t33b; omega
    refine WL.runs 4 [(30, .bool (decide ((key.size : Int) > 64))), (29, .bool (decide ((key.size : Int) > 64))), (28, .int .i64 (key.size : Int)), (27, .string key)] (fun _ => by kernel_rfl) ?_
    refine WL.done rfl ?_
    refine QX.then_normal (hK32 _ _ ?_)
    refine WC.test_at 30 (decide ((key.size : Int) > 64)) rfl (fun t57b => ?_) (fun t57b => ?_)
    · -- (key.size : Int) > 64: true
      have t57 : (64 : Int) < (key.size : Int) := by have q_ := of_decide_eq_true t57b; omega
      refine WC.cond_true rfl ?_
      refine WC.region ?_
      refine WL.runs 1 [(9, .int .i64 9)] (fun _ => by kernel_rfl) ?_
      refine WL.done rfl ?_
      refine QX.then_normal (hK30 _ _ ?_)
      refine WC.seq (fun K58 hK59 => ?_)
      refine WC.region ?_
      refine WL.runs 3 [(33, .iface 38 (.int .i64 9)), (32, .int .i64 9), (31, errV 38 (if key.size = 0 ∨ 64 < key.size then 9 else 5))] (fun _ => by kernel_rfl) ?_
      have hr60 : ∀ w_, Sem.run Try.prog (do eqGuard .eql 26 (Operand.tmp 31) (Operand.tmp 33) (errV 38 (if key.size = 0 ∨ 64 < key.size then 9 else 5)) (.iface 38 (.int .i64 9)); binOp .eql 26 (errV 38 (if key.size = 0 ∨ 64 < key.size then 9 else 5)) (.iface 38 (.int .i64 9))) w_ = .ok (.bool (decide ((if key.size = 0 ∨ 64 < key.size then 9 else 5) = (9 : Int)))) w_ := fun w_ => (err_eqlc _ _ (if key.size = 0 ∨ 64 < key.size then 9 else 5) 9 (by decide) _)
      refine WL.sem (do eqGuard .eql 26 (Operand.tmp 31) (Operand.tmp 33) (errV 38 (if key.size = 0 ∨ 64 < key.size then 9 else 5)) (.iface 38 (.int .i64 9)); binOp .eql 26 (errV 38 (if key.size = 0 ∨ 64 < key.size then 9 else 5)) (.iface 38 (.int .i64 9))) 34 (.bool (decide ((if key.size = 0 ∨ 64 < key.size then 9 else 5) = (9 : Int)))) (by kernel_rfl) (hr60 _) ?_
      refine WL.runs 1 [(35, .bool (decide ((if key.size = 0 ∨ 64 < key.size then 9 else 5) = (9 : Int))))] (fun _ => by kernel_rfl) ?_
      refine WL.know 35 (.bool (decide ((if key.size = 0 ∨ 64 < key.size then 9 else 5) = (9 : Int)))) (.bool true) rfl (congrArg Value.bool (by first | (rw [if_pos (by omega)]; rfl) | (rw [if_neg (by omega)]; rfl))) ?_
      refine WL.runs 7 [(42, .string key), (41, .pointer none), (40, .bool true), (39, .bool true), (38, .bool true), (37, .iface 38 (.int .i64 6)), (36, .iface 38 (.int .i64 6))] (fun _ => by kernel_rfl) ?_
      refine WL.newM hC26 (fun b => .slice (some ⟨b, 0, none⟩) 1 1) (.cells #[.string key] 9) 43 (fun _ => by kernel_rfl) (fun g61 w62 hb65 hF63 hC64 => ?_)
      refine WL.call rfl rfl rfl rfl rfl (by kernel_rfl) (Drop_nil (some ⟨g61, 0, none⟩) 1 1 w62) ?_
      rintro _ w67 ⟨rfl, hF66⟩
      refine ⟨_, rfl, ?_⟩
      have hC68 := hC64.call hF66
      refine WL.runs 4 [(48, .pointer none), (47, .bool true), (46, .bool true), (45, .bool true)] (fun _ => by kernel_rfl) ?_
      refine WL.call rfl rfl rfl rfl rfl (by kernel_rfl) (Keys_nil w67) ?_
      rintro _ w70 ⟨rfl, hF69⟩
      refine ⟨_, rfl, ?_⟩
      have hC71 := hC68.call hF69
      refine WL.runs 5 [(54, .pointer none), (53, .bool true), (52, .bool true), (51, .bool true), (50, .int .i64 0)] (fun _ => by kernel_rfl) ?_
      refine WL.call rfl rfl rfl rfl rfl (by kernel_rfl) (Used_nil w70) ?_
      rintro _ w73 ⟨rfl, hF72⟩
      refine ⟨_, rfl, ?_⟩
      have hC74 := hC71.call hF72
      refine WL.runs 4 [(59, .pointer none), (58, .bool true), (57, .bool true), (56, .bool true)] (fun _ => by kernel_rfl) ?_
      refine WL.call rfl rfl rfl rfl rfl (by kernel_rfl) (Sync_nil w73) ?_
      rintro _ w76 ⟨rfl, hF75⟩
      refine ⟨_, rfl, ?_⟩
      have hC77 := hC74.call hF75
      refine WL.runs 4 [(64, .pointer none), (63, .bool true), (62, .bool true), (61, .bool true)] (fun _ => by kernel_rfl) ?_
      refine WL.call rfl rfl rfl rfl rfl (by kernel_rfl) (Crash_nil w76) ?_
      rintro _ w79 ⟨rfl, hF78⟩
      refine ⟨_, rfl, ?_⟩
      have hC80 := hC77.call hF78
      refine WL.runs 3 [(4, .bool true), (67, .bool true), (66, .bool true)] (fun _ => by kernel_rfl) ?_
      refine WL.done rfl ?_
      refine QX.then_normal (hK59 _ _ ?_)
      refine WC.ret ?_
      refine (hret _ _ _ rfl ?_).1
      clear hN hret hret' hK59 hK32 hK30 hK28 hK23 hK13 hK11 hK6 hK4 hK2
      exact ⟨rfl, hC80.fr⟩
    · -- (key.size : Int) > 64: false
      have t57 : (key.size : Int) ≤ 64 := by have q_ := of_decide_eq_false t57b; omega
      refine WC.cond_false rfl ?_
      refine WC.skip ?_
      refine QX.then_normal (hK30 _ _ ?_)
      refine WC.seq (fun K81 hK82 => ?_)
      refine WC.region ?_
      refine WL.runs 3 [(33, .iface 38 (.int .i64 5)), (32, .int .i64 5), (31, errV 38 (if key.size = 0 ∨ 64 < key.size then 9 else 5))] (fun _ => by kernel_rfl) ?_
      have hr83 : ∀ w_, Sem.run Try.prog (do eqGuard .eql 26 (Operand.tmp 31) (Operand.tmp 33) (errV 38 (if key.size = 0 ∨ 64 < key.size then 9 else 5)) (.iface 38 (.int .i64 5)); binOp .eql 26 (errV 38 (if key.size = 0 ∨ 64 < key.size then 9 else 5)) (.iface 38 (.int .i64 5))) w_ = .ok (.bool (decide ((if key.size = 0 ∨ 64 < key.size then 9 else 5) = (5 : Int)))) w_ := fun w_ => (err_eqlc _ _ (if key.size = 0 ∨ 64 < key.size then 9 else 5) 5 (by decide) _)
      refine WL.sem (do eqGuard .eql 26 (Operand.tmp 31) (Operand.tmp 33) (errV 38 (if key.size = 0 ∨ 64 < key.size then 9 else 5)) (.iface 38 (.int .i64 5)); binOp .eql 26 (errV 38 (if key.size = 0 ∨ 64 < key.size then 9 else 5)) (.iface 38 (.int .i64 5))) 34 (.bool (decide ((if key.size = 0 ∨ 64 < key.size then 9 else 5) = (5 : Int)))) (by kernel_rfl) (hr83 _) ?_
      refine WL.runs 1 [(35, .bool (decide ((if key.size = 0 ∨ 64 < key.size then 9 else 5) = (5 : Int))))] (fun _ => by kernel_rfl) ?_
      refine WL.know 35 (.bool (decide ((if key.size = 0 ∨ 64 < key.size then 9 else 5) = (5 : Int)))) (.bool true) rfl (congrArg Value.bool (by first | (rw [if_pos (by omega)]; rfl) | (rw [if_neg (by omega)]; rfl))) ?_
      refine WL.runs 7 [(42, .string key), (41, .pointer none), (40, .bool true), (39, .bool true), (38, .bool true), (37, .iface 38 (.int .i64 6)), (36, .iface 38 (.int .i64 6))] (fun _ => by kernel_rfl) ?_
      refine WL.newM hC26 (fun b => .slice (some ⟨b, 0, none⟩) 1 1) (.cells #[.string key] 9) 43 (fun _ => by kernel_rfl) (fun g84 w85 hb88 hF86 hC87 => ?_)
      refine WL.call rfl rfl rfl rfl rfl (by kernel_rfl) (Drop_nil (some ⟨g84, 0, none⟩) 1 1 w85) ?_
      rintro _ w90 ⟨rfl, hF89⟩
      refine ⟨_, rfl, ?_⟩
      have hC91 := hC87.call hF89
      refine WL.runs 4 [(48, .pointer none), (47, .bool true), (46, .bool true), (45, .bool true)] (fun _ => by kernel_rfl) ?_
      refine WL.call rfl rfl rfl rfl rfl (by kernel_rfl) (Keys_nil w90) ?_
      rintro _ w93 ⟨rfl, hF92⟩
      refine ⟨_, rfl, ?_⟩
      have hC94 := hC91.call hF92
      refine WL.runs 5 [(54, .pointer none), (53, .bool true), (52, .bool true), (51, .bool true), (50, .int .i64 0)] (fun _ => by kernel_rfl) ?_
      refine WL.call rfl rfl rfl rfl rfl (by kernel_rfl) (Used_nil w93) ?_
      rintro _ w96 ⟨rfl, hF95⟩
      refine ⟨_, rfl, ?_⟩
      have hC97 := hC94.call hF95
      refine WL.runs 4 [(59, .pointer none), (58, .bool true), (57, .bool true), (56, .bool true)] (fun _ => by kernel_rfl) ?_
      refine WL.call rfl rfl rfl rfl rfl (by kernel_rfl) (Sync_nil w96) ?_
      rintro _ w99 ⟨rfl, hF98⟩
      refine ⟨_, rfl, ?_⟩
      have hC100 := hC97.call hF98
      refine WL.runs 4 [(64, .pointer none), (63, .bool true), (62, .bool true), (61, .bool true)] (fun _ => by kernel_rfl) ?_
      refine WL.call rfl rfl rfl rfl rfl (by kernel_rfl) (Crash_nil w99) ?_
      rintro _ w102 ⟨rfl, hF101⟩
      refine ⟨_, rfl, ?_⟩
      have hC103 := hC100.call hF101
      refine WL.runs 3 [(4, .bool true), (67, .bool true), (66, .bool true)] (fun _ => by kernel_rfl) ?_
      refine WL.done rfl ?_
      refine QX.then_normal (hK82 _ _ ?_)
      refine WC.ret ?_
      refine (hret _ _ _ rfl ?_).1
      clear hN hret hret' hK82 hK32 hK30 hK28 hK23 hK13 hK11 hK6 hK4 hK2
      exact ⟨rfl, hC103.fr⟩

end Go.Proofs.Ytelmklombehhkaa
