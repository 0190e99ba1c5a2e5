/- Contracts of functions of the program, each proved by a walk through its code; conditions stand in the statements. -/
import Derived.Test.YtkhdliobbbmkoaaSbR13
import Derived.Test.YtkhdliobbbmkoaaSbJ13
namespace Go.Proofs.Ytkhdliobbbmkoaa
set_option linter.unusedSimpArgs false
set_option linter.unusedVariables false
set_option linter.unusedSectionVars false
open Go Go.RowKit Go.Tw
set_option linter.unusedVariables false
set_option maxRecDepth 20000
theorem err_neq (X : Operand) (c : Int) (ok : Bool) (h : decide (c = 0) = ok) (w : World) : Sem.run Try.prog (do eqGuard .neq 26 X (.const .nilIface) (errV 38 c) .nilIface; binOp .neq 26 (errV 38 c) .nilIface) w = .ok (.bool (!ok)) w := by
  subst h
  unfold errV
  by_cases hc : c = 0
  · simp only [hc, if_true, decide_true]; cases X <;> kernel_rfl
  · simp only [hc, if_false, decide_false]; cases X <;> kernel_rfl
theorem own_put13 {key : ByteArray} {xs : List Int} (h1 : 1 ≤ key.size) (h2 : key.size ≤ 64) (h3 : xs.length ≤ 65536) : putE [] 1048576 key xs.length = 0 ∧ lookL (putS [] 1048576 key xs) key = some xs := by
  have e : putE [] 1048576 key xs.length = 0 := putE_yes h1 h2 (by simp [delL, usedL]; omega)
  refine ⟨e, ?_⟩
  unfold putS
  rw [if_pos e]
  simp [putL, lookL]
theorem blk_in2 {A : Option Addr} {n c n' c' x : Nat} (h : x ∈ blk (.slice A n c)) : x ∈ blk (.slice A n' c') := by cases A <;> exact h
theorem take_ks13 {xs : List Int} {n : Nat} (hn : xs.length = n) (ys : List Int) : (xs ++ ys).take n = xs := by subst hn; simp
theorem Copy_ct (A : Option Addr) (c : Nat) (xs : List Int) (w : World) (hrd : Rd w 1 (Go.Tw.encI .u8) A xs) (hlx : xs.length ≤ 1099511627776) : Calls Try.prog 11 #[.slice A xs.length c] w fun e w' => ∃ (A2 : Option Addr) (c2 : Nat), e = .returned (.slice A2 xs.length c2) ∧ Fr w w' [] ∧ w'.ownsRow w.heap.size 5 1 (.slice A2 (xs.length + 2) c2) (xs.length + 2) ((xs ++ [165, 90]).flatMap (Go.Tw.encI .u8)) := by
 refine enterD (n := 14) Try.func11 rfl rfl (Nat.le_of_ble_eq_true rfl) ?_
 intro Q0 hN hret hret'
 have hC := Cx.start w
 refine WCs (fun K1 hK2 => ?_)
 refine WCg (WLr 1 [(2, .slice none 0 0)] (fun _ => by kernel_rfl) (WLd rfl (QXn (hK2 _ _ ?_))))
 refine WCs (fun K3 hK4 => ?_)
 refine WCg (WLr 3 [(5, .int .i64 (IntKind.i64.wrap ((xs.length : Int) + 2))), (4, .int .i64 (xs.length : Int)), (3, .slice A xs.length c)] (fun _ => by kernel_rfl) ?_)
 refine WLt (show (.int .i64 (IntKind.i64.wrap ((xs.length : Int) + 2)) : Value) = .int .i64 ((xs.length : Int) + 2) from by rw [wrap_in_i64 ((xs.length : Int) + 2) (by omega) (by omega)]) ?_
 obtain ⟨g5, w6, hr7, ho8, hF9, hC10, hge11⟩ := make0_run Try.prog hC 22 5 1 1 (xs.length + 2) .i64 .i64 ((xs.length : Int) + 2) rfl (by omega) (by omega) (by simp only [maxLen]; omega)
 refine WL.sem (Instr.makeSlice 22 (.int .i64 0) (.int .i64 ((xs.length : Int) + 2))) 6 (.slice (some ⟨g5, 0, none⟩) 0 (xs.length + 2)) (by kernel_rfl) hr7 ?_
 refine WLr 1 [(7, .slice A xs.length c)] (fun _ => by kernel_rfl) ?_
 obtain ⟨v13, w14, hr15, ho16, hF17, hC18, hnil19, hsub20⟩ := app_run Try.prog hC10 0 (v := .slice (some ⟨g5, 0, none⟩) 0 (xs.length + 2)) rfl 22 22 5 1 1 0 xs.length c A rfl ho8 (xs.flatMap (Go.Tw.encI .u8)) (flat_len_n (Go.Tw.encI_len _) (by first | rfl | assumption | (simp; done) | (simp; omega))) (Rd.src_n (Rd.fr hrd hC10.fr) (Go.Tw.encI_len _) (by decide) (by first | rfl | assumption | (simp; done) | (simp; omega))) (flat_one (Go.Tw.encI_one _) _) (by simp only [maxLen]; omega) (by omega)
 have ho24 := own_app (enc := (Go.Tw.encI .u8)) (ys := []) (zs := xs) ho16
 obtain ⟨A21, c22, rfl, hle23⟩ := own_form ho24
 refine WL.sem (Builtin.append_ #[22, 22] 22 #[.slice (some ⟨g5, 0, none⟩) 0 (xs.length + 2), .slice A xs.length c]) 8 (.slice A21 (0 + xs.length) c22) (by kernel_rfl) hr15 ?_
 refine WL.newM hC18 (fun b => .slice (some ⟨b, 0, none⟩) 2 2) (.cells #[.int .u8 165, .int .u8 90] 5) 9 (fun _ => by kernel_rfl) (fun g25 w26 hb29 hF27 hC28 => ?_)
 have ho30 := own_fr ho24 hF27 (by simp)
 obtain ⟨v31, w32, hr33, ho34, hF35, hC36, hnil37, hsub38⟩ := app_run Try.prog hC28 0 (v := .slice A21 (0 + xs.length) c22) rfl 22 22 5 1 1 (0 + xs.length) 2 2 (some ⟨g25, 0, none⟩) rfl ho30 [.int .u8 165, .int .u8 90] rfl (srcOk.blk 2 (hC28.get 0 rfl)) rfl (by simp only [maxLen]; omega) (by omega)
 have ho42 := own_app (enc := (Go.Tw.encI .u8)) (ys := [] ++ xs) (zs := [165, 90]) ho34
 obtain ⟨A39, c40, rfl, hle41⟩ := own_form ho42
 refine WL.sem (Builtin.append_ #[22, 22] 22 #[.slice A21 (0 + xs.length) c22, .slice (some ⟨g25, 0, none⟩) 2 2]) 10 (.slice A39 (0 + xs.length + 2) c40) (by kernel_rfl) hr33 ?_
 refine WLr 2 [(12, .int .i64 (xs.length : Int)), (11, .slice A xs.length c)] (fun _ => by kernel_rfl) ?_
 have hle_ := own_le ho42
 have hb43 : xs.length ≤ c40 := by omega
 refine WL.slc 22 5 1 A39 A39 (0 + xs.length + 2) c40 0 xs.length xs.length c40 none (some (.int .i64 (xs.length : Int))) 13 (by kernel_rfl) (by kernel_rfl) bnd.no (bnd.yes (by omega)) (by omega) hb43 (slcAt_pre _ _ _) (by first | rfl | omega) (by first | rfl | omega) ?_
 have ho44 := own_takeE (m := xs.length) (Go.Tw.encI_len _) ho42 (by omega)
 refine WLr 1 [(2, .slice A39 xs.length c40)] (fun _ => by kernel_rfl) (WLd rfl (QXn (hK4 _ _ ?_)))
 refine WC.ret ?_
 refine (hret _ _ _ rfl ?_).1
 clear hN hret hret' hK4 hK2
 have hown_ := ho42
 rw [show (0 + xs.length + 2 : Nat) = xs.length + 2 from by omega, show ([] : List Int) ++ xs ++ [165, 90] = xs ++ [165, 90] from by rw [List.nil_append]] at hown_
 exact ⟨_, _, rfl, hC36.fr, own_base hown_ (by have z_ := newF_of hC36 0 rfl (by simp) (by simp); intro x_ hx_; exact z_ x_ (blk_in2 hx_))⟩

set_option maxHeartbeats 2000000 in
theorem StableOwns_ct (key : ByteArray) (A : Option Addr) (c : Nat) (xs : List Int) (w : World) (hr : Rd w 1 (Go.Tw.encI .u8) A xs) (hby : byteL xs) (hlx : xs.length ≤ 9223372036854775807) : Calls Try.prog 3 #[.string key, .slice A xs.length c] w fun e w' => e = .returned (.bool true) ∧ Fr w w' [] := by
 refine enterD (n := 101) Try.func3 rfl rfl (Nat.le_of_ble_eq_true rfl) ?_
 intro Q0 hN hret hret'
 have hC := Cx.start w
 refine WCs (fun K1 hK2 => ?_)
 refine WCg (WLr 1 [(4, .bool false)] (fun _ => by kernel_rfl) (WLd rfl (QXn (hK2 _ _ ?_))))
 refine WCs (fun K3 hK4 => ?_)
 refine WCs (fun K5 hK6 => ?_)
 refine WCg ?_
 refine WLc rfl rfl rfl rfl rfl (by kernel_rfl) (alive_ct w) ?_
 rintro _ w8 ⟨rfl, hF7⟩
 refine ⟨_, rfl, ?_⟩
 have hC9 := hC.call hF7
 refine WLr 1 [(13, .bool false)] (fun _ => by kernel_rfl) (WLd rfl (QXn (hK6 _ _ ?_)))
 refine WCf rfl (WC.skip (QXn (hK4 _ _ ?_)))
 refine WCs (fun K10 hK11 => ?_)
 refine WCs (fun K12 hK13 => ?_)
 refine WCg (WLr 4 [(17, .bool (decide ((key.size : Int) < 1))), (16, .bool (decide ((key.size : Int) < 1))), (15, .int .i64 (key.size : Int)), (14, .string key)] (fun _ => by kernel_rfl) ?_)
 refine WLa 17 (decide ((key.size : Int) < 1)) rfl (fun t14b => ?_) (fun t14b => ?_)
 ·
  have t14 : (key.size : Int) < 1 := by have q_ := of_decide_eq_true t14b; omega
  refine WLr 9 [(26, .bool true), (25, undef), (24, undef), (23, undef), (22, .bool true), (21, .bool true), (20, undef), (19, undef), (18, undef)] (fun _ => by kernel_rfl) (WLd rfl (QXn (hK13 _ _ ?_)))
  refine WCt rfl ?_
  refine WCs (fun K15 hK16 => ?_)
  refine WCg (WLr 1 [(4, .bool true)] (fun _ => by kernel_rfl) (WLd rfl (QXn (hK16 _ _ ?_))))
  refine WC.ret ?_
  refine QXr ?_
  refine (hret _ _ _ rfl ?_).1
  exact ⟨rfl, hC9.fr⟩
 ·
  have t14 : (1 : Int) ≤ (key.size : Int) := by have q_ := of_decide_eq_false t14b; omega
  refine WLr 5 [(22, .bool (decide ((key.size : Int) > 64))), (21, .bool (decide ((key.size : Int) > 64))), (20, .bool (decide ((key.size : Int) > 64))), (19, .int .i64 (key.size : Int)), (18, .string key)] (fun _ => by kernel_rfl) ?_
  refine WLa 22 (decide ((key.size : Int) > 64)) rfl (fun t17b => ?_) (fun t17b => ?_)
  ·
   have t17 : (64 : Int) < (key.size : Int) := by have q_ := of_decide_eq_true t17b; omega
   refine WLr 4 [(26, .bool true), (25, undef), (24, undef), (23, undef)] (fun _ => by kernel_rfl) (WLd rfl (QXn (hK13 _ _ ?_)))
   refine WCt rfl ?_
   refine WCs (fun K18 hK19 => ?_)
   refine WCg (WLr 1 [(4, .bool true)] (fun _ => by kernel_rfl) (WLd rfl (QXn (hK19 _ _ ?_))))
   refine WC.ret ?_
   refine QXr ?_
   refine (hret _ _ _ rfl ?_).1
   exact ⟨rfl, hC9.fr⟩
  ·
   have t17 : (key.size : Int) ≤ 64 := by have q_ := of_decide_eq_false t17b; omega
   refine WLr 4 [(26, .bool (decide ((xs.length : Int) > 65536))), (25, .bool (decide ((xs.length : Int) > 65536))), (24, .int .i64 (xs.length : Int)), (23, .slice A xs.length c)] (fun _ => by kernel_rfl) (WLd rfl (QXn (hK13 _ _ ?_)))
   refine WCa 26 (decide ((xs.length : Int) > 65536)) rfl (fun t20b => ?_) (fun t20b => ?_)
   ·
    have t20 : (65536 : Int) < (xs.length : Int) := by have q_ := of_decide_eq_true t20b; omega
    refine WCt rfl ?_
    refine WCs (fun K21 hK22 => ?_)
    refine WCg (WLr 1 [(4, .bool true)] (fun _ => by kernel_rfl) (WLd rfl (QXn (hK22 _ _ ?_))))
    refine WC.ret ?_
    refine QXr ?_
    refine (hret _ _ _ rfl ?_).1
    exact ⟨rfl, hC9.fr⟩
   ·
    have t20 : (xs.length : Int) ≤ 65536 := by have q_ := of_decide_eq_false t20b; omega
    refine WCf rfl (WC.skip (QXn (hK11 _ _ ?_)))
    refine WCs (fun K23 hK24 => ?_)
    refine WCg ?_
    refine WLc rfl rfl rfl rfl rfl (by kernel_rfl) (New_ct 1048576 w8 (by omega) (by omega)) ?_
    rintro _ w28 ⟨p25, F26, rfl, hF27, hT30, hge31⟩
    have hC29 := hC9.callN hF27 hge31 (stAt_lt hT30)
    refine ⟨_, rfl, ?_⟩
    refine WLr 5 [(6, .nilIface), (5, .pointer (some ⟨p25, 0, none⟩)), (30, .nilIface), (29, .pointer (some ⟨p25, 0, none⟩)), (27, .tuple #[.pointer (some ⟨p25, 0, none⟩), .nilIface])] (fun _ => by kernel_rfl) (WLd rfl (QXn (hK24 _ _ ?_)))
    refine WCs (fun K33 hK34 => ?_)
    refine WCg (WLr 1 [(31, .slice A xs.length c)] (fun _ => by kernel_rfl) ?_)
    refine WLc rfl rfl rfl rfl rfl (by kernel_rfl) (Copy_ct A c xs w28 (Rd.fr hr hC29.fr) (by omega)) ?_
    rintro _ w39 ⟨A35, c36, rfl, hF38, ho37⟩
    have hC40 := hC29.callN hF38 (own_ge ho37) (own_lt ho37)
    refine ⟨_, rfl, ?_⟩
    rw [blk_n A35 (xs.length + 2) c36 xs.length c36] at hC40
    have ho41 := own_base (b' := 0) ho37 (fun _ _ => Nat.zero_le _)
    have ho42 := own_takeE (m := xs.length) (Go.Tw.encI_len _) ho41 (by omega)
    rw [take_ks13 rfl] at ho42
    have hf44 := stAt_fr hT30 hF38 (by simp)
    refine WLr 1 [(7, .slice A35 xs.length c36)] (fun _ => by kernel_rfl) (WLd rfl (QXn (hK34 _ _ ?_)))
    refine WCs (fun K45 hK46 => ?_)
    refine WCs (fun K47 hK48 => ?_)
    refine WCg (WLr 10 [(42, .slice A35 xs.length c36), (41, .string key), (40, .pointer (some ⟨p25, 0, none⟩)), (39, .bool false), (38, .bool false), (37, .bool false), (36, .pointer (some ⟨p25, 0, none⟩)), (35, .bool false), (34, .bool false), (33, .nilIface)] (fun _ => by kernel_rfl) ?_)
    refine WL.newM hC40 (fun b => .slice (some ⟨b, 0, none⟩) 1 1) (.cells #[.slice A35 xs.length c36] 22) 43 (fun _ => by kernel_rfl) (fun g49 w50 hb53 hF51 hC52 => ?_)
    have hf54 := stAt_fr hf44 hF51 (by simp)
    have ho55 := own_fr ho42 hF51 (by simp)
    have hr56 : ∀ r_ ∈ ([(⟨A35, xs.length, c36, xs⟩ : BRow)] : List BRow), rowAt w50 r_ := by
     intro r_ hr_; simp only [List.mem_cons, List.not_mem_nil, or_false] at hr_
     rcases hr_ with rfl
     ·
      exact ⟨(own_rd ho55 (Go.Tw.encI_len _) (by decide)), (own_count (Go.Tw.encI_len _) (by decide) ho55), hby⟩
    refine WLc rfl rfl rfl rfl rfl (by kernel_rfl) (Put_any F26 p25 [] [] 1048576 key (some ⟨g49, 0, none⟩) 1 [(⟨A35, xs.length, c36, xs⟩ : BRow)] xs w50 hf54 (Rd.blk (hC52.get 0 rfl) cellB_len rfl) hr56 (by simp) (cat1 _ _ _ _)) ?_
    rintro _ w58 ⟨F61, rfl, hF57, hT60, hsub62⟩
    have hT60' : stAt w58 F61 p25 (putS [] 1048576 key xs) [] 1048576 := hT60
    have hC59 := hC52.callF 0 rfl hF57 hsub62 (stAt_lt hT60')
    refine ⟨_, rfl, ?_⟩
    have ho63 := own_fr ho55 hF57 (hC52.disj 1 0 rfl rfl (by decide))
    have hr64 : ∀ w_, Sem.run Try.prog (do eqGuard .neq 26 (Operand.tmp 44) (Operand.const (.nilIface)) (errV 38 (putE [] 1048576 key xs.length)) (.nilIface); binOp .neq 26 (errV 38 (putE [] 1048576 key xs.length)) (.nilIface)) w_ = .ok (.bool (!(decide (putE [] 1048576 key xs.length = 0)))) w_ := fun w_ => (err_neq _ (putE [] 1048576 key xs.length) (decide (putE [] 1048576 key xs.length = 0)) (by rfl) _)
    refine WL.sem (do eqGuard .neq 26 (Operand.tmp 44) (Operand.const (.nilIface)) (errV 38 (putE [] 1048576 key xs.length)) (.nilIface); binOp .neq 26 (errV 38 (putE [] 1048576 key xs.length)) (.nilIface)) 45 (.bool (!(decide (putE [] 1048576 key xs.length = 0)))) (by kernel_rfl) (hr64 _) ?_
    refine WLr 1 [(46, .bool (!(decide (putE [] 1048576 key xs.length = 0))))] (fun _ => by kernel_rfl) (WLd rfl (QXn (hK48 _ _ ?_)))
    refine WC.know 46 (.bool (!(decide (putE [] 1048576 key xs.length = 0)))) (.bool false) rfl (congrArg Value.bool (by first | (rw [(own_put13 (by omega) (by omega) (by omega)).1]; simp; done) | simp)) ?_
    refine WCf rfl (WC.skip (QXn (hK46 _ _ ?_)))
    refine WCs (fun K65 hK66 => ?_)
    refine WCg (WLr 1 [(47, .pointer (some ⟨p25, 0, none⟩))] (fun _ => by kernel_rfl) ?_)
    refine WLc rfl rfl rfl rfl rfl (by kernel_rfl) (Sync_ct F61 p25 (putS [] 1048576 key xs) [] 1048576 w58 hT60') ?_
    rintro _ w68 ⟨F71, rfl, hF67, hT70, hsub72⟩
    have hT70' : stAt w68 F71 p25 (putS [] 1048576 key xs) (putS [] 1048576 key xs) 1048576 := hT70
    have hC69 := hC59.callF 0 rfl hF67 hsub72 (stAt_lt hT70')
    refine ⟨_, rfl, ?_⟩
    have ho73 := own_fr ho63 hF67 (hC59.disj 1 0 rfl rfl (by decide))
    refine WLd rfl (QXn (hK66 _ _ ?_))
    refine WCs (fun K74 hK75 => ?_)
    refine WCg (WLr 1 [(49, .slice A35 xs.length c36)] (fun _ => by kernel_rfl) ?_)
    have hle_ := own_le ho73
    refine WLc rfl rfl rfl rfl rfl (by kernel_rfl) (Over_ct A35 xs.length c36 xs w68 ho73 (by omega)) ?_
    rintro _ w78 ⟨ys76, rfl, hF77, ho80, hyl81⟩
    refine ⟨_, rfl, ?_⟩
    have hC79 := hC69.callF 1 rfl hF77 (fun _ hx_ => .inl hx_) (own_lt ho80)
    have hf82 := stAt_fr hT70' hF77 (hC69.disj 0 1 rfl rfl (by decide))
    refine WLd rfl (QXn (hK75 _ _ ?_))
    refine WCs (fun K83 hK84 => ?_)
    refine WCg (WLr 2 [(53, .string key), (52, .pointer (some ⟨p25, 0, none⟩))] (fun _ => by kernel_rfl) ?_)
    refine WLc rfl rfl rfl rfl rfl (by kernel_rfl) (Get_yes F71 p25 (putS [] 1048576 key xs) (putS [] 1048576 key xs) 1048576 key xs w78 hf82 ((own_put13 (by omega) (by omega) (by omega)).2)) ?_
    rintro _ w87 ⟨v_, rfl, hF86, ho85⟩
    have hC88 := hC79.callN hF86 (own_ge ho85) (own_lt ho85)
    obtain ⟨A89, c90, rfl, hle91⟩ := own_form ho85
    have ho93 := own_base (b' := 0) ho85 (fun _ _ => Nat.zero_le _)
    refine ⟨_, rfl, ?_⟩
    have hf94 := stAt_fr hf82 hF86 (by simp)
    have ho95 := own_fr ho80 hF86 (by simp)
    refine WLr 5 [(6, .nilIface), (8, .slice A89 xs.length c90), (56, .nilIface), (55, .slice A89 xs.length c90), (51, .tuple #[.slice A89 xs.length c90, .nilIface])] (fun _ => by kernel_rfl) (WLd rfl (QXn (hK84 _ _ ?_)))
    refine WCs (fun K97 hK98 => ?_)
    refine WCg (WLr 2 [(59, .string key), (58, .pointer (some ⟨p25, 0, none⟩))] (fun _ => by kernel_rfl) ?_)
    refine WLc rfl rfl rfl rfl rfl (by kernel_rfl) (Get_yes F71 p25 (putS [] 1048576 key xs) (putS [] 1048576 key xs) 1048576 key xs w87 hf94 ((own_put13 (by omega) (by omega) (by omega)).2)) ?_
    rintro _ w101 ⟨v_, rfl, hF100, ho99⟩
    have hC102 := hC88.callN hF100 (own_ge ho99) (own_lt ho99)
    obtain ⟨A103, c104, rfl, hle105⟩ := own_form ho99
    have ho107 := own_base (b' := 0) ho99 (fun _ _ => Nat.zero_le _)
    refine ⟨_, rfl, ?_⟩
    have hf108 := stAt_fr hf94 hF100 (by simp)
    have ho109 := own_fr ho95 hF100 (by simp)
    have ho110 := own_fr ho93 hF100 (by simp)
    refine WLr 5 [(10, .nilIface), (9, .slice A103 xs.length c104), (62, .nilIface), (61, .slice A103 xs.length c104), (57, .tuple #[.slice A103 xs.length c104, .nilIface])] (fun _ => by kernel_rfl) (WLd rfl (QXn (hK98 _ _ ?_)))
    refine WCs (fun K112 hK113 => ?_)
    refine WCs (fun K114 hK115 => ?_)
    refine WCg (WLr 8 [(70, .slice A89 xs.length c90), (69, .bool false), (68, .bool false), (67, .bool false), (66, .nilIface), (65, .bool false), (64, .bool false), (63, .nilIface)] (fun _ => by kernel_rfl) ?_)
    refine WL.sem (convert 22 9 (.slice A89 xs.length c90)) 71 (.string (strOfNums xs)) (by kernel_rfl) (run_bytes_str rfl rfl rfl (own_rd ho110 (Go.Tw.encI_len _) (by decide)) (own_count (Go.Tw.encI_len _) (by decide) ho110)) ?_
    refine WLr 1 [(72, .slice A xs.length c)] (fun _ => by kernel_rfl) ?_
    refine WL.sem (convert 22 9 (.slice A xs.length c)) 73 (.string (strOfNums xs)) (by kernel_rfl) (run_bytes_str rfl rfl rfl (Rd.fr hr hC102.fr) (by first | rfl | assumption | (simp; done))) ?_
    refine WLr 1 [(74, .bool (!((strOfNums xs).toList == (strOfNums xs).toList)))] (fun _ => by kernel_rfl) ?_
    refine WLt (show (.bool (!((strOfNums xs).toList == (strOfNums xs).toList)) : Value) = .bool (!decide ((strOfNums xs) = (strOfNums xs))) from by rw [str_eql]) ?_
    refine WLr 2 [(76, .bool (!decide ((strOfNums xs) = (strOfNums xs)))), (75, .bool (!decide ((strOfNums xs) = (strOfNums xs))))] (fun _ => by kernel_rfl) ?_
    refine WL.know 76 (.bool (!decide ((strOfNums xs) = (strOfNums xs)))) (.bool false) rfl (congrArg Value.bool (by simp)) ?_
    refine WLr 3 [(79, .slice A35 xs.length c36), (78, .slice A103 xs.length c104), (77, .slice A89 xs.length c90)] (fun _ => by kernel_rfl) ?_
    refine WL.newM hC102 (fun b => .slice (some ⟨b, 0, none⟩) 3 3) (.cells #[.slice A89 xs.length c90, .slice A103 xs.length c104, .slice A35 xs.length c36] 22) 80 (fun _ => by kernel_rfl) (fun g116 w117 hb120 hF118 hC119 => ?_)
    have hf121 := stAt_fr hf108 hF118 (by simp)
    have ho122 := own_fr ho109 hF118 (by simp)
    have ho123 := own_fr ho110 hF118 (by simp)
    have ho124 := own_fr ho107 hF118 (by simp)
    have hn130 := own_count (Go.Tw.encI_len _) (by decide) ho123
    have hn131 := own_count (Go.Tw.encI_len _) (by decide) ho124
    have hn132 := own_count (Go.Tw.encI_len _) (by decide) ho122
    have hC125 := hC119.toF 1 rfl
    have hC126 := Cx.pickM hC125 [] [0, 1, 2, 3, 4] (by decide) rfl rfl
    refine WLc rfl rfl rfl rfl rfl (by kernel_rfl) (Apart_ct g116 A89 A103 A35 xs.length xs.length xs.length c90 c104 c36 xs xs ys76 w117 (hC119.get 1 rfl) ho123 ho124 ho122 (hC119.notin 2 1 rfl rfl) (hC119.notin 3 1 rfl rfl) (hC119.notin 1 1 rfl rfl) (hC119.disj 2 3 rfl rfl (by decide)) (hC119.disj 2 1 rfl rfl (by decide)) (hC119.disj 3 1 rfl rfl (by decide)) hn130 (by omega) hn131 (by omega) hn132 (by omega)) ?_
    rintro _ w127 ⟨rfl, hF128⟩
    have hC129 := hC126.frame hF128 (by simp) (fun x_ hx_ => by
     simp only [List.mem_cons, List.mem_append] at hx_
     rcases hx_ with h_ | h_ | h_ | h_
     ·
      exact hC126.ownF _ (List.mem_of_getElem? (show _[4]? = some _ from rfl)) x_ (by simp [h_])
     ·
      exact hC126.ownF _ (List.mem_of_getElem? (show _[2]? = some _ from rfl)) x_ h_
     ·
      exact hC126.ownF _ (List.mem_of_getElem? (show _[3]? = some _ from rfl)) x_ h_
     ·
      exact hC126.ownF _ (List.mem_of_getElem? (show _[1]? = some _ from rfl)) x_ h_)
    have hf133 := stAt_fr hf121 hF128 (fun x_ hx_ hm_ => by
     simp only [List.mem_cons, List.mem_append] at hm_
     rcases hm_ with h_ | h_ | h_ | h_
     ·
      exact hC126.disj 4 0 rfl rfl (by decide) x_ (by simp [h_]) hx_
     ·
      exact hC126.disj 2 0 rfl rfl (by decide) x_ h_ hx_
     ·
      exact hC126.disj 3 0 rfl rfl (by decide) x_ h_ hx_
     ·
      exact hC126.disj 1 0 rfl rfl (by decide) x_ h_ hx_)
    refine ⟨_, rfl, ?_⟩
    refine WLr 2 [(83, .bool false), (82, .bool false)] (fun _ => by kernel_rfl) (WLd rfl (QXn (hK115 _ _ ?_)))
    refine WCf rfl (WC.skip (QXn (hK113 _ _ ?_)))
    refine WCs (fun K134 hK135 => ?_)
    refine WCg (WLr 1 [(84, .pointer (some ⟨p25, 0, none⟩))] (fun _ => by kernel_rfl) ?_)
    refine WLc rfl rfl rfl rfl rfl (by kernel_rfl) (Crash_ct F71 p25 (putS [] 1048576 key xs) (putS [] 1048576 key xs) 1048576 w127 hf133) ?_
    rintro _ w137 ⟨F140, rfl, hF136, hT139, hsub141⟩
    have hT139' : stAt w137 F140 p25 (putS [] 1048576 key xs) (putS [] 1048576 key xs) 1048576 := hT139
    have hC138 := hC129.callF 0 rfl hF136 hsub141 (stAt_lt hT139')
    refine ⟨_, rfl, ?_⟩
    refine WLd rfl (QXn (hK135 _ _ ?_))
    refine WCs (fun K142 hK143 => ?_)
    refine WCg (WLr 2 [(88, .string key), (87, .pointer (some ⟨p25, 0, none⟩))] (fun _ => by kernel_rfl) ?_)
    refine WLc rfl rfl rfl rfl rfl (by kernel_rfl) (Get_yes F140 p25 (putS [] 1048576 key xs) (putS [] 1048576 key xs) 1048576 key xs w137 hT139' ((own_put13 (by omega) (by omega) (by omega)).2)) ?_
    rintro _ w146 ⟨v_, rfl, hF145, ho144⟩
    have hC147 := hC138.callN hF145 (own_ge ho144) (own_lt ho144)
    obtain ⟨A148, c149, rfl, hle150⟩ := own_form ho144
    have ho152 := own_base (b' := 0) ho144 (fun _ _ => Nat.zero_le _)
    refine ⟨_, rfl, ?_⟩
    refine WLr 5 [(6, .nilIface), (11, .slice A148 xs.length c149), (91, .nilIface), (90, .slice A148 xs.length c149), (86, .tuple #[.slice A148 xs.length c149, .nilIface])] (fun _ => by kernel_rfl) (WLd rfl (QXn (hK143 _ _ ?_)))
    refine WCs (fun K155 hK156 => ?_)
    refine WCg (WLr 4 [(95, .slice A148 xs.length c149), (94, .bool true), (93, .bool true), (92, .nilIface)] (fun _ => by kernel_rfl) ?_)
    refine WL.sem (convert 22 9 (.slice A148 xs.length c149)) 96 (.string (strOfNums xs)) (by kernel_rfl) (run_bytes_str rfl rfl rfl (own_rd ho152 (Go.Tw.encI_len _) (by decide)) (own_count (Go.Tw.encI_len _) (by decide) ho152)) ?_
    refine WLr 1 [(97, .slice A xs.length c)] (fun _ => by kernel_rfl) ?_
    refine WL.sem (convert 22 9 (.slice A xs.length c)) 98 (.string (strOfNums xs)) (by kernel_rfl) (run_bytes_str rfl rfl rfl (Rd.fr hr hC147.fr) (by first | rfl | assumption | (simp; done))) ?_
    refine WLr 1 [(99, .bool ((strOfNums xs).toList == (strOfNums xs).toList))] (fun _ => by kernel_rfl) ?_
    refine WLt (show (.bool ((strOfNums xs).toList == (strOfNums xs).toList) : Value) = .bool (decide ((strOfNums xs) = (strOfNums xs))) from by rw [str_eql]) ?_
    refine WLr 2 [(4, .bool (decide ((strOfNums xs) = (strOfNums xs)))), (100, .bool (decide ((strOfNums xs) = (strOfNums xs))))] (fun _ => by kernel_rfl) (WLd rfl (QXn (hK156 _ _ ?_)))
    refine WC.ret ?_
    refine (hret _ _ _ rfl ?_).1
    exact ⟨congrArg (fun b_ => Ending.returned (Value.bool b_)) (show ((decide ((strOfNums xs) = (strOfNums xs)))) = true from by simp), hC147.fr⟩

end Go.Proofs.Ytkhdliobbbmkoaa
