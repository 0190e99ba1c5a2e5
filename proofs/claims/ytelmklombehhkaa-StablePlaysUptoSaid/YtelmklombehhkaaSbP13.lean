/- Contracts of functions of the program, each proved by a walk through its code; conditions stand in the statements. -/
import Derived.Test.YtelmklombehhkaaSbO13
namespace Go.Proofs.Ytelmklombehhkaa
set_option linter.unusedSimpArgs false
set_option linter.unusedVariables false
set_option linter.unusedSectionVars false
open Go Go.RowKit Go.Tw
set_option linter.unusedVariables false
set_option maxRecDepth 20000
theorem New_no (n : Int) (w : World) (h : n < 0 ∨ 67108864 < n) : Calls Try.prog 10 #[.int .i64 n] w fun e w' => e = .returned (.tuple #[.pointer none, .iface 38 (.int .i64 4)]) ∧ Fr w w' [] := by
  refine enterD (n := 16) Try.func10 rfl rfl (Nat.le_of_ble_eq_true rfl) ?_
  intro Q0 hN hret hret'
  have hC := Cx.start w
  refine WC.seq (fun K1 hK2 => ?_)
  refine WC.region ?_
  refine WL.runs 2 [(3, .nilIface), (2, .pointer none)] (fun _ => by kernel_rfl) ?_
  refine WL.done rfl ?_
  refine QX.then_normal (hK2 _ _ ?_)
  refine WC.seq (fun K3 hK4 => ?_)
  refine WC.seq (fun K5 hK6 => ?_)
  refine WC.region ?_
  refine WL.runs 3 [(6, .bool (decide (n < 0))), (5, .bool (decide (n < 0))), (4, .int .i64 n)] (fun _ => by kernel_rfl) ?_
  refine WL.test_at 6 (decide (n < 0)) rfl (fun t7b => ?_) (fun t7b => ?_)
  · -- n < 0: true
    have t7 : n < 0 := by have q_ := of_decide_eq_true t7b; omega
    refine WL.runs 3 [(9, .bool true), (8, undef), (7, undef)] (fun _ => by kernel_rfl) ?_
    refine WL.done rfl ?_
    refine QX.then_normal (hK6 _ _ ?_)
    refine WC.cond_true rfl ?_
    refine WC.seq (fun K8 hK9 => ?_)
    refine WC.region ?_
    refine WL.runs 3 [(3, .iface 38 (.int .i64 4)), (2, .pointer none), (10, .iface 38 (.int .i64 4))] (fun _ => by kernel_rfl) ?_
    refine WL.done rfl ?_
    refine QX.then_normal (hK9 _ _ ?_)
    refine WC.ret ?_
    refine QX.then_ret ?_
    refine (hret _ _ _ rfl ?_).1
    clear hN hret hret' hK9 hK6 hK4 hK2
    exact ⟨rfl, hC.fr⟩
  · -- n < 0: false
    have t7 : (0 : Int) ≤ n := by have q_ := of_decide_eq_false t7b; omega
    refine WL.runs 3 [(9, .bool (decide (n > 67108864))), (8, .bool (decide (n > 67108864))), (7, .int .i64 n)] (fun _ => by kernel_rfl) ?_
    refine WL.done rfl ?_
    refine QX.then_normal (hK6 _ _ ?_)
    refine WC.test_at 9 (decide (n > 67108864)) rfl (fun t10b => ?_) (fun t10b => ?_)
    · -- n > 67108864: true
      have t10 : (67108864 : Int) < n := by have q_ := of_decide_eq_true t10b; omega
      refine WC.cond_true rfl ?_
      refine WC.seq (fun K11 hK12 => ?_)
      refine WC.region ?_
      refine WL.runs 3 [(3, .iface 38 (.int .i64 4)), (2, .pointer none), (10, .iface 38 (.int .i64 4))] (fun _ => by kernel_rfl) ?_
      refine WL.done rfl ?_
      refine QX.then_normal (hK12 _ _ ?_)
      refine WC.ret ?_
      refine QX.then_ret ?_
      refine (hret _ _ _ rfl ?_).1
      clear hN hret hret' hK12 hK6 hK4 hK2
      exact ⟨rfl, hC.fr⟩
    · -- n > 67108864: false
      have t10 : n ≤ 67108864 := by have q_ := of_decide_eq_false t10b; omega
      refine WC.cond_false rfl ?_
      refine WC.skip ?_
      refine QX.then_normal (hK4 _ _ ?_)
      refine WC.seq (fun K13 hK14 => ?_)
      refine WC.region ?_
      exfalso; omega

theorem blk_in2 {A : Option Addr} {n c n' c' x : Nat} (h : x ∈ blk (.slice A n c)) : x ∈ blk (.slice A n' c') := by cases A <;> exact h
theorem Copy_ct (A : Option Addr) (c : Nat) (xs : List Int) (w : World) (hrd : Rd w 1 (Go.Tw.encI .u8) A xs) (hlx : xs.length ≤ 1099511627776) : Calls Try.prog 11 #[.slice A xs.length c] w fun e w' => ∃ (A2 : Option Addr) (c2 : Nat), e = .returned (.slice A2 xs.length c2) ∧ Fr w w' [] ∧ w'.ownsRow w.heap.size 5 1 (.slice A2 (xs.length + 2) c2) (xs.length + 2) ((xs ++ [165, 90]).flatMap (Go.Tw.encI .u8)) := by
  refine enterD (n := 14) Try.func11 rfl rfl (Nat.le_of_ble_eq_true rfl) ?_
  intro Q0 hN hret hret'
  have hC := Cx.start w
  refine WC.seq (fun K1 hK2 => ?_)
  refine WC.region ?_
  refine WL.runs 1 [(2, .slice none 0 0)] (fun _ => by kernel_rfl) ?_
  refine WL.done rfl ?_
  refine QX.then_normal (hK2 _ _ ?_)
  refine WC.seq (fun K3 hK4 => ?_)
  refine WC.region ?_
  refine WL.runs 3 [(5, .int .i64 (IntKind.i64.wrap ((xs.length : Int) + 2))), (4, .int .i64 (xs.length : Int)), (3, .slice A xs.length c)] (fun _ => by kernel_rfl) ?_
  refine WL.recast (show (.int .i64 (IntKind.i64.wrap ((xs.length : Int) + 2)) : Value) = .int .i64 ((xs.length : Int) + 2) from by rw [wrap_in_i64 ((xs.length : Int) + 2) (by omega) (by omega)]) ?_
  obtain ⟨g5, w6, hr7, ho8, hF9, hC10, hge11⟩ := make0_run Try.prog hC 22 5 1 1 (xs.length + 2) .i64 .i64 ((xs.length : Int) + 2) rfl (by omega) (by omega) (by simp only [maxLen]; omega)
  refine WL.sem (Instr.makeSlice 22 (.int .i64 0) (.int .i64 ((xs.length : Int) + 2))) 6 (.slice (some ⟨g5, 0, none⟩) 0 (xs.length + 2)) (by kernel_rfl) hr7 ?_
  refine WL.runs 1 [(7, .slice A xs.length c)] (fun _ => by kernel_rfl) ?_
  obtain ⟨v13, w14, hr15, ho16, hF17, hC18, hnil19, hsub20⟩ := app_run Try.prog hC10 0 (v := .slice (some ⟨g5, 0, none⟩) 0 (xs.length + 2)) rfl 22 22 5 1 1 0 xs.length c A rfl ho8 (xs.flatMap (Go.Tw.encI .u8)) (flat_len_n (Go.Tw.encI_len _) (by first | rfl | assumption | (simp; done) | (simp; omega))) (Rd.src_n (Rd.fr hrd hC10.fr) (Go.Tw.encI_len _) (by decide) (by first | rfl | assumption | (simp; done) | (simp; omega))) (flat_one (Go.Tw.encI_one _) _) (by simp only [maxLen]; omega) (by omega)
  have ho24 := own_app (enc := (Go.Tw.encI .u8)) (ys := []) (zs := xs) ho16
  obtain ⟨A21, c22, rfl, hle23⟩ := own_form ho24
  refine WL.sem (Builtin.append_ #[22, 22] 22 #[.slice (some ⟨g5, 0, none⟩) 0 (xs.length + 2), .slice A xs.length c]) 8 (.slice A21 (0 + xs.length) c22) (by kernel_rfl) hr15 ?_
  refine WL.newM hC18 (fun b => .slice (some ⟨b, 0, none⟩) 2 2) (.cells #[.int .u8 165, .int .u8 90] 5) 9 (fun _ => by kernel_rfl) (fun g25 w26 hb29 hF27 hC28 => ?_)
  have ho30 := own_fr ho24 hF27 (by simp)
  obtain ⟨v31, w32, hr33, ho34, hF35, hC36, hnil37, hsub38⟩ := app_run Try.prog hC28 0 (v := .slice A21 (0 + xs.length) c22) rfl 22 22 5 1 1 (0 + xs.length) 2 2 (some ⟨g25, 0, none⟩) rfl ho30 [.int .u8 165, .int .u8 90] rfl (srcOk.blk 2 (hC28.get 0 rfl)) rfl (by simp only [maxLen]; omega) (by omega)
  have ho42 := own_app (enc := (Go.Tw.encI .u8)) (ys := [] ++ xs) (zs := [165, 90]) ho34
  obtain ⟨A39, c40, rfl, hle41⟩ := own_form ho42
  refine WL.sem (Builtin.append_ #[22, 22] 22 #[.slice A21 (0 + xs.length) c22, .slice (some ⟨g25, 0, none⟩) 2 2]) 10 (.slice A39 (0 + xs.length + 2) c40) (by kernel_rfl) hr33 ?_
  refine WL.runs 2 [(12, .int .i64 (xs.length : Int)), (11, .slice A xs.length c)] (fun _ => by kernel_rfl) ?_
  have hle_ := own_le ho42
  have hb43 : xs.length ≤ c40 := by omega
  refine WL.slc 22 5 1 A39 A39 (0 + xs.length + 2) c40 0 xs.length xs.length c40 none (some (.int .i64 (xs.length : Int))) 13 (by kernel_rfl) (by kernel_rfl) bnd.no (bnd.yes (by omega)) (by omega) hb43 (slcAt_pre _ _ _) (by first | rfl | omega) (by first | rfl | omega) ?_
  have ho44 := own_takeE (m := xs.length) (Go.Tw.encI_len _) ho42 (by omega)
  refine WL.runs 1 [(2, .slice A39 xs.length c40)] (fun _ => by kernel_rfl) ?_
  refine WL.done rfl ?_
  refine QX.then_normal (hK4 _ _ ?_)
  refine WC.ret ?_
  refine (hret _ _ _ rfl ?_).1
  clear hN hret hret' hK4 hK2
  have hown_ := ho42
  rw [show (0 + xs.length + 2 : Nat) = xs.length + 2 from by omega, show ([] : List Int) ++ xs ++ [165, 90] = xs ++ [165, 90] from by rw [List.nil_append]] at hown_
  exact ⟨_, _, rfl, hC36.fr, own_base hown_ (by have z_ := newF_of hC36 0 rfl (by simp) (by simp); intro x_ hx_; exact z_ x_ (blk_in2 hx_))⟩

theorem Kept_ct (A B : Option Addr) (c c2 : Nat) (xs : List Int) (w : World) (hA1 : Rd w 1 (Go.Tw.encI .u8) A xs) (hA : Rd w 1 (Go.Tw.encI .u8) A (xs ++ [165, 90])) (hB : Rd w 1 (Go.Tw.encI .u8) B xs) (hc : xs.length + 2 ≤ c) (hlx : xs.length ≤ 1099511627776) : Calls Try.prog 24 #[.slice A xs.length c, .slice B xs.length c2] w fun e w' => e = .returned (.bool true) ∧ Fr w w' [] := by
  refine enterD (n := 39) Try.func24 rfl rfl (Nat.le_of_ble_eq_true rfl) ?_
  intro Q0 hN hret hret'
  have hxl_ : (xs ++ [165, 90]).length = xs.length + 2 := by simp
  have hC := Cx.start w
  refine WC.seq (fun K1 hK2 => ?_)
  refine WC.region ?_
  refine WL.runs 1 [(4, .bool false)] (fun _ => by kernel_rfl) ?_
  refine WL.done rfl ?_
  refine QX.then_normal (hK2 _ _ ?_)
  refine WC.seq (fun K3 hK4 => ?_)
  refine WC.seq (fun K5 hK6 => ?_)
  refine WC.region ?_
  refine WL.runs 1 [(6, .slice A xs.length c)] (fun _ => by kernel_rfl) ?_
  refine WL.sem (convert 22 9 (.slice A xs.length c)) 7 (.string (strOfNums xs)) (by kernel_rfl) (run_bytes_str rfl rfl rfl (Rd.fr hA1 hC.fr) rfl) ?_
  refine WL.runs 1 [(8, .slice B xs.length c2)] (fun _ => by kernel_rfl) ?_
  refine WL.sem (convert 22 9 (.slice B xs.length c2)) 9 (.string (strOfNums xs)) (by kernel_rfl) (run_bytes_str rfl rfl rfl (Rd.fr hB hC.fr) rfl) ?_
  refine WL.runs 1 [(10, .bool (!((strOfNums xs).toList == (strOfNums xs).toList)))] (fun _ => by kernel_rfl) ?_
  refine WL.recast (show (.bool (!((strOfNums xs).toList == (strOfNums xs).toList)) : Value) = .bool (!decide ((strOfNums xs) = (strOfNums xs))) from by rw [str_eql]) ?_
  refine WL.runs 1 [(11, .bool (!decide ((strOfNums xs) = (strOfNums xs))))] (fun _ => by kernel_rfl) ?_
  refine WL.know 11 (.bool (!decide ((strOfNums xs) = (strOfNums xs)))) (.bool false) rfl (congrArg Value.bool (by simp)) ?_
  refine WL.runs 5 [(16, .int .i64 (IntKind.i64.wrap ((xs.length : Int) + 2))), (15, .int .i64 (xs.length : Int)), (14, .slice B xs.length c2), (13, .int .i64 (c : Int)), (12, .slice A xs.length c)] (fun _ => by kernel_rfl) ?_
  refine WL.recast (show (.int .i64 (IntKind.i64.wrap ((xs.length : Int) + 2)) : Value) = .int .i64 ((xs.length : Int) + 2) from by rw [wrap_in_i64 ((xs.length : Int) + 2) (by omega) (by omega)]) ?_
  refine WL.runs 2 [(18, .bool (decide ((c : Int) < ((xs.length : Int) + 2)))), (17, .bool (decide ((c : Int) < ((xs.length : Int) + 2))))] (fun _ => by kernel_rfl) ?_
  refine WL.done rfl ?_
  refine QX.then_normal (hK6 _ _ ?_)
  refine WC.know 18 (.bool (decide ((c : Int) < ((xs.length : Int) + 2)))) (.bool false) rfl (congrArg Value.bool (by exact decide_eq_false (by omega))) ?_
  refine WC.cond_false rfl ?_
  refine WC.skip ?_
  refine QX.then_normal (hK4 _ _ ?_)
  refine WC.seq (fun K7 hK8 => ?_)
  refine WC.region ?_
  refine WL.runs 4 [(22, .int .i64 (IntKind.i64.wrap ((xs.length : Int) + 2))), (21, .int .i64 (xs.length : Int)), (20, .slice B xs.length c2), (19, .slice A xs.length c)] (fun _ => by kernel_rfl) ?_
  refine WL.recast (show (.int .i64 (IntKind.i64.wrap ((xs.length : Int) + 2)) : Value) = .int .i64 ((xs.length : Int) + 2) from by rw [wrap_in_i64 ((xs.length : Int) + 2) (by omega) (by omega)]) ?_
  have hb9 : xs.length + 2 ≤ c := by omega
  refine WL.slc 22 5 1 A A xs.length c 0 (xs.length + 2) (xs.length + 2) c none (some (.int .i64 ((xs.length : Int) + 2))) 23 (by kernel_rfl) (by kernel_rfl) bnd.no (bnd.yes (by omega)) (by omega) hb9 (slcAt_pre _ _ _) (by first | rfl | omega) (by first | rfl | omega) ?_
  refine WL.runs 1 [(5, .slice A (xs.length + 2) c)] (fun _ => by kernel_rfl) ?_
  refine WL.done rfl ?_
  refine QX.then_normal (hK8 _ _ ?_)
  refine WC.seq (fun K10 hK11 => ?_)
  refine WC.region ?_
  refine WL.runs 3 [(26, .int .i64 (xs.length : Int)), (25, .slice B xs.length c2), (24, .slice A (xs.length + 2) c)] (fun _ => by kernel_rfl) ?_
  obtain ⟨e12, he13⟩ := get_some (xs := (xs ++ [165, 90])) (i := xs.length) (by omega)
  obtain ⟨b14, o16, hA15, hc17⟩ := hA.at_ _ _ he13
  refine WL.index A (xs.length + 2) c 27 .i64 (xs.length : Int) b14 o16 xs.length 1 (by kernel_rfl) hA15 (by omega) (by omega) (o16 + xs.length) (by first | (simp; done) | omega) ?_
  refine WL.load 5 (.pointer (some ⟨b14, o16 + xs.length, none⟩)) (.int .u8 e12) 28 (by kernel_rfl) (run_load1 rfl (by simpa [Nat.add_assoc] using hC.fr.cell (hc17 0 _ rfl) (by simp))) ?_
  refine WL.runs 2 [(30, .bool (e12 == 165)), (29, .bool (e12 == 165))] (fun _ => by kernel_rfl) ?_
  refine WL.know 30 (.bool (e12 == 165)) (.bool true) rfl (congrArg Value.bool (by have z_ := he13; simp at z_; simp [← z_])) ?_
  refine WL.runs 4 [(34, .int .i64 (IntKind.i64.wrap ((xs.length : Int) + 1))), (33, .int .i64 (xs.length : Int)), (32, .slice B xs.length c2), (31, .slice A (xs.length + 2) c)] (fun _ => by kernel_rfl) ?_
  refine WL.recast (show (.int .i64 (IntKind.i64.wrap ((xs.length : Int) + 1)) : Value) = .int .i64 ((xs.length : Int) + 1) from by rw [wrap_in_i64 ((xs.length : Int) + 1) (by omega) (by omega)]) ?_
  obtain ⟨e18, he19⟩ := get_some (xs := (xs ++ [165, 90])) (i := xs.length + 1) (by omega)
  obtain ⟨b20, o22, hA21, hc23⟩ := hA.at_ _ _ he19
  refine WL.index A (xs.length + 2) c 35 .i64 ((xs.length : Int) + 1) b20 o22 (xs.length + 1) 1 (by kernel_rfl) hA21 (by omega) (by omega) (o22 + (xs.length + 1)) (by first | (simp; done) | omega) ?_
  refine WL.load 5 (.pointer (some ⟨b20, o22 + (xs.length + 1), none⟩)) (.int .u8 e18) 36 (by kernel_rfl) (run_load1 rfl (by simpa [Nat.add_assoc] using hC.fr.cell (hc23 0 _ rfl) (by simp))) ?_
  refine WL.runs 3 [(4, .bool (e18 == 90)), (38, .bool (e18 == 90)), (37, .bool (e18 == 90))] (fun _ => by kernel_rfl) ?_
  refine WL.done rfl ?_
  refine QX.then_normal (hK11 _ _ ?_)
  refine WC.ret ?_
  refine (hret _ _ _ rfl ?_).1
  clear hN hret hret' hK11 hK8 hK6 hK4 hK2
  exact ⟨congrArg (fun b_ => Ending.returned (Value.bool b_)) (show ((e18 == 90)) = true from by have z_ := he19; simp at z_; simp [← z_]), hC.fr⟩

end Go.Proofs.Ytelmklombehhkaa
