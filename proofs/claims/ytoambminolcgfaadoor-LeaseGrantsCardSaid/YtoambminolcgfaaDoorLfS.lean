/- Contracts of functions of the program, each proved by a walk through its code; conditions stand in the statements. -/
import Derived.Test.YtoambminolcgfaaDoorLfQ
namespace Go.Proofs.YtoambminolcgfaaDoor
set_option linter.unusedSimpArgs false
set_option linter.unusedVariables false
set_option linter.unusedSectionVars false
open Go Go.RowKit Go.Tw
set_option linter.unusedVariables false
theorem mine_ct (A : Option Addr) (c : Nat) (xs : List Lease)  (w : World) (hr : Rd w 4 encL A xs) (hm : xs.length < 2 ^ 39) : Calls Tryd.prog 13 #[.slice A xs.length c] w fun e w' => ∃ A' c', e = .returned (.slice A' xs.length c') ∧ Fr w w' [] ∧ w'.ownsRow w.heap.size 27 4 (.slice A' (xs.length + 1) c') (xs.length + 1) ((xs ++ [(⟨0, -77, 0, 0⟩ : Lease)]).flatMap encL) := by
  refine enterD (n := 15) Tryd.func13 rfl rfl (Nat.le_of_ble_eq_true rfl) ?_
  intro Q0 hN hret hret'
  have hC := Cx.start w
  refine WC.seq (fun K1 hK2 => ?_)
  refine WC.region ?_
  refine WL.runs 1 [(2, .slice none 0 0)] (fun _ => by kernel_rfl) ?_
  refine WL.done rfl ?_
  refine QX.then_normal (hK2 _ _ ?_)
  refine WC.seq (fun K3 hK4 => ?_)
  refine WC.region ?_
  refine WL.runs 3 [(5, .int .i64 (IntKind.i64.wrap ((xs.length : Int) + 1))), (4, .int .i64 (xs.length : Int)), (3, .slice A xs.length c)] (fun _ => by kernel_rfl) ?_
  refine WL.recast (show (.int .i64 (IntKind.i64.wrap ((xs.length : Int) + 1)) : Value) = .int .i64 ((xs.length : Int) + 1) from by rw [wrap_in_i64 ((xs.length : Int) + 1) (by omega) (by omega)]) ?_
  obtain ⟨g5, w6, hr7, ho8, hF9, hC10, hge11⟩ := make0_run Tryd.prog hC 25 27 4 32 (xs.length + 1) .i64 .i64 ((xs.length : Int) + 1) rfl (by omega) (by omega) (by simp only [maxLen]; omega)
  refine WL.sem (Instr.makeSlice 25 (.int .i64 0) (.int .i64 ((xs.length : Int) + 1))) 6 (.slice (some ⟨g5, 0, none⟩) 0 (xs.length + 1)) (by kernel_rfl) hr7 ?_
  refine WL.runs 1 [(7, .slice A xs.length c)] (fun _ => by kernel_rfl) ?_
  obtain ⟨v13, w14, hr15, ho16, hF17, hC18, hnil19, hsub20⟩ := app_run Tryd.prog hC10 0 (v := .slice (some ⟨g5, 0, none⟩) 0 (xs.length + 1)) rfl 25 25 27 4 32 0 xs.length c A rfl ho8 (xs.flatMap encL) (flat_len_n encL_len (by first | rfl | (simp; omega))) (Rd.src_n (Rd.fr hr hC10.fr) encL_len (by decide) (by first | rfl | (simp; omega))) (flat_one encL_one _) (by simp only [maxLen]; omega) (by omega)
  have ho24 := own_app (enc := encL) (ys := []) (zs := xs) ho16
  obtain ⟨A21, c22, rfl, hle23⟩ := own_form ho24
  refine WL.sem (Builtin.append_ #[25, 25] 25 #[.slice (some ⟨g5, 0, none⟩) 0 (xs.length + 1), .slice A xs.length c]) 8 (.slice A21 (0 + xs.length) c22) (by kernel_rfl) hr15 ?_
  refine WL.runs 1 [(9, .agg #[.int .u32 0, .int .i64 (-77), .int .u32 0, .int .i64 0])] (fun _ => by kernel_rfl) ?_
  refine WL.newM hC18 (fun b => .slice (some ⟨b, 0, none⟩) 1 1) (.cells #[.int .u32 0, .int .i64 (-77), .int .u32 0, .int .i64 0] 27) 10 (fun _ => by kernel_rfl) (fun g25 w26 hb29 hF27 hC28 => ?_)
  have ho30 := own_fr ho24 hF27 (by simp)
  obtain ⟨v31, w32, hr33, ho34, hF35, hC36, hnil37, hsub38⟩ := app_run Tryd.prog hC28 0 (v := .slice A21 (0 + xs.length) c22) rfl 25 25 27 4 32 (0 + xs.length) 1 1 (some ⟨g25, 0, none⟩) rfl ho30 [.int .u32 0, .int .i64 (-77), .int .u32 0, .int .i64 0] rfl (srcOk.blk 1 (hC28.get 0 rfl)) rfl (by simp only [maxLen]; omega) (by omega)
  have ho42 := own_snoc (enc := encL) (ys := [] ++ xs) (⟨0, -77, 0, 0⟩ : Lease) ho34
  obtain ⟨A39, c40, rfl, hle41⟩ := own_form ho42
  refine WL.sem (Builtin.append_ #[25, 25] 25 #[.slice A21 (0 + xs.length) c22, .slice (some ⟨g25, 0, none⟩) 1 1]) 11 (.slice A39 (0 + xs.length + 1) c40) (by kernel_rfl) hr33 ?_
  refine WL.runs 2 [(13, .int .i64 (xs.length : Int)), (12, .slice A xs.length c)] (fun _ => by kernel_rfl) ?_
  have hle_ := own_le ho42
  have hb43 : xs.length ≤ c40 := by omega
  refine WL.slc 25 27 4 A39 A39 (0 + xs.length + 1) c40 0 xs.length xs.length c40 none (some (.int .i64 (xs.length : Int))) 14 (by kernel_rfl) (by kernel_rfl) bnd.no (bnd.yes (by omega)) (by omega) hb43 (slcAt_pre _ _ _) (by first | rfl | omega) (by first | rfl | omega) ?_
  have ho44 := own_takeE (m := xs.length) encL_len ho42 (by omega)
  refine WL.runs 1 [(2, .slice A39 xs.length c40)] (fun _ => by kernel_rfl) ?_
  refine WL.done rfl ?_
  refine QX.then_normal (hK4 _ _ ?_)
  refine WC.ret ?_
  refine (hret _ _ _ rfl ?_).1
  clear hN hret hret' hK4 hK2
  have ho_ := ho42
  have hc_ := own_count encL_len (by decide) ho_
  exact ⟨_, _, rfl, hC36.fr, by simpa using own_base ho_ (hC36.geF 0 rfl)⟩

theorem kept_ct (A : Option Addr) (c : Nat) (xs : List Lease) (B : Option Addr) (c2 : Nat) (w : World) (hra : Rd w 4 encL A (xs ++ [(⟨0, -77, 0, 0⟩ : Lease)])) (hrb : Rd w 4 encL B xs) (hcc : xs.length + 1 ≤ c) (hm : xs.length < 2 ^ 39) : Calls Tryd.prog 20 #[.slice A xs.length c, .slice B xs.length c2] w fun e w' => e = .returned (.bool true) ∧ Fr w w' [] := by
  refine enterD (n := 21) Tryd.func20 rfl rfl (Nat.le_of_ble_eq_true rfl) ?_
  intro Q0 hN hret hret'
  have hC := Cx.start w
  refine WC.seq (fun K1 hK2 => ?_)
  refine WC.region ?_
  refine WL.runs 1 [(4, .bool false)] (fun _ => by kernel_rfl) ?_
  refine WL.done rfl ?_
  refine QX.then_normal (hK2 _ _ ?_)
  refine WC.seq (fun K3 hK4 => ?_)
  refine WC.region ?_
  refine WL.runs 2 [(6, .slice B xs.length c2), (5, .slice A xs.length c)] (fun _ => by kernel_rfl) ?_
  refine WL.call rfl rfl rfl rfl rfl (by kernel_rfl) (Same2_ct A c xs B c2 xs w (Rd.fr (Rd_pre hra) hC.fr) (Rd.fr hrb hC.fr) (by omega)) ?_
  rintro _ w6 ⟨rfl, hF5⟩
  refine ⟨_, rfl, ?_⟩
  have hC7 := hC.call hF5
  refine WL.runs 1 [(8, .bool (decide (xs = xs)))] (fun _ => by kernel_rfl) ?_
  refine WL.know 8 (.bool (decide (xs = xs))) (.bool true) rfl (congrArg Value.bool (by simp)) ?_
  refine WL.runs 4 [(12, .int .i64 (IntKind.i64.wrap ((xs.length : Int) + 1))), (11, .int .i64 (xs.length : Int)), (10, .slice B xs.length c2), (9, .slice A xs.length c)] (fun _ => by kernel_rfl) ?_
  refine WL.recast (show (.int .i64 (IntKind.i64.wrap ((xs.length : Int) + 1)) : Value) = .int .i64 ((xs.length : Int) + 1) from by rw [wrap_in_i64 ((xs.length : Int) + 1) (by first | omega | (simp; done) | (simp; omega)) (by first | omega | (simp; done) | (simp; omega))]) ?_
  have hb8 : xs.length + 1 ≤ c := by first | omega | (simp; done) | (simp; omega)
  refine WL.slc 25 27 4 A A xs.length c 0 (xs.length + 1) (xs.length + 1) c none (some (.int .i64 ((xs.length : Int) + 1))) 13 (by kernel_rfl) (by kernel_rfl) bnd.no (bnd.yes (by first | omega | (simp; done) | (simp; omega))) (by first | omega | (simp; done) | (simp; omega)) hb8 (slcAt_pre _ _ _) (by first | rfl | omega) (by first | rfl | omega) ?_
  have hrd9 := Rd.slc hra 0 (xs.length + 1) c hb8 (slcAt_pre _ _ _)
  refine WL.runs 2 [(15, .int .i64 (xs.length : Int)), (14, .slice B xs.length c2)] (fun _ => by kernel_rfl) ?_
  obtain ⟨e10, he11⟩ := get_some (xs := ((xs ++ [(⟨0, -77, 0, 0⟩ : Lease)]).take (xs.length + 1)).drop 0) (i := xs.length) (by first | omega | (simp; done) | (simp; omega))
  obtain ⟨b12, o14, hA13, hc15⟩ := hrd9.at_ _ _ he11
  refine WL.index A (xs.length + 1) c 16 .i64 (xs.length : Int) b12 o14 xs.length 4 (by kernel_rfl) hA13 (by first | omega | (simp; done) | (simp; omega)) (by first | omega | (simp; done) | (simp; omega)) (o14 + xs.length * 4) (by first | (simp; done) | omega) ?_
  refine WL.runs 1 [(17, .pointer (some ⟨b12, o14 + xs.length * 4 + 1, none⟩))] (fun _ => by kernel_rfl) ?_
  refine WL.load 3 (.pointer (some ⟨b12, o14 + xs.length * 4 + 1, none⟩)) (.int .i64 e10.first) 18 (by kernel_rfl) (run_load1 rfl (by simpa [Nat.add_assoc] using hC7.fr.cell (hc15 1 _ rfl) (by simp))) ?_
  refine WL.runs 3 [(4, .bool (e10.first == (-77))), (20, .bool (e10.first == (-77))), (19, .bool (e10.first == (-77)))] (fun _ => by kernel_rfl) ?_
  refine WL.done rfl ?_
  refine QX.then_normal (hK4 _ _ ?_)
  refine WC.ret ?_
  refine (hret _ _ _ rfl ?_).1
  clear hN hret hret' hK4 hK2
  exact ⟨congrArg (fun b_ => Ending.returned (Value.bool b_)) (show (e10.first == (-77)) = true from by have q_ := he11; simp at q_; rw [← q_]; rfl), hC7.fr⟩

theorem LeaseFinds_ct (A : Option Addr) (c : Nat) (xs : List Lease) (vip dip first now : Int) (w : World) (hr : Rd w 4 encL A xs) (hwf : ∀ l ∈ xs, okL l) (hvip : 0 ≤ vip ∧ vip ≤ 4294967295) (hdip : 0 ≤ dip ∧ dip ≤ 4294967295) (hfirst : -9223372036854775808 ≤ first ∧ first ≤ 9223372036854775807) (hnow : -9223372036854775808 ≤ now ∧ now ≤ 9223372036854775807) (hg : Rd w 1 (encI .u8) (some ⟨0, 0, none⟩) dbTab) : Calls Tryd.prog 5 #[.agg #[.slice A xs.length c, .int .u32 vip, .int .u32 dip, .int .i64 first, .int .i64 now]] w fun e w' => e = .returned (.bool true) ∧ Fr w w' [] := by
  refine enterD (n := 82) Tryd.func5 rfl rfl (Nat.le_of_ble_eq_true rfl) ?_
  intro Q0 hN hret hret'
  have hb1_ := List.length_filter_le (ofP dip now) xs
  have hb2_ := List.length_filter_le (pruneP now) xs
  have hC := Cx.start w
  refine WC.seq (fun K1 hK2 => ?_)
  refine WC.region ?_
  refine WL.newM hC (fun b => .pointer (some ⟨b, 0, none⟩)) (.cells #[.slice A xs.length c, .int .u32 vip, .int .u32 dip, .int .i64 first, .int .i64 now] 37) 1 (fun _ => by kernel_rfl) (fun g3 w4 hb7 hF5 hC6 => ?_)
  refine WL.runs 1 [(2, .bool false)] (fun _ => by kernel_rfl) ?_
  refine WL.done rfl ?_
  refine QX.then_normal (hK2 _ _ ?_)
  refine WC.seq (fun K8 hK9 => ?_)
  refine WC.seq (fun K10 hK11 => ?_)
  refine WC.region ?_
  refine WL.call rfl rfl rfl rfl rfl (by kernel_rfl) (alive_ct w4 (Rd.fr hg hC6.fr)) ?_
  rintro _ w13 ⟨rfl, hF12⟩
  refine ⟨_, rfl, ?_⟩
  have hC14 := hC6.call hF12
  refine WL.runs 1 [(9, .bool false)] (fun _ => by kernel_rfl) ?_
  refine WL.done rfl ?_
  refine QX.then_normal (hK11 _ _ ?_)
  refine WC.cond_false rfl ?_
  refine WC.skip ?_
  refine QX.then_normal (hK9 _ _ ?_)
  refine WC.seq (fun K15 hK16 => ?_)
  refine WC.seq (fun K17 hK18 => ?_)
  refine WC.region ?_
  refine WL.runs 1 [(10, .pointer (some ⟨g3, 0, none⟩))] (fun _ => by kernel_rfl) ?_
  refine WL.load 25 (.pointer (some ⟨g3, 0, none⟩)) (.slice A xs.length c) 11 (by kernel_rfl) (run_ld (hC14.get 0 rfl) rfl) ?_
  refine WL.runs 2 [(13, .bool (decide ((xs.length : Int) > 2000))), (12, .int .i64 (xs.length : Int))] (fun _ => by kernel_rfl) ?_
  refine WL.done rfl ?_
  refine QX.then_normal (hK18 _ _ ?_)
  refine WC.test_at 13 (decide ((xs.length : Int) > 2000)) rfl (fun t19b => ?_) (fun t19b => ?_)
  · -- (xs.length : Int) > 2000: true
    have t19 : (2000 : Int) < (xs.length : Int) := by have q_ := of_decide_eq_true t19b; omega
    refine WC.cond_true rfl ?_
    refine WC.seq (fun K20 hK21 => ?_)
    refine WC.region ?_
    refine WL.runs 1 [(2, .bool true)] (fun _ => by kernel_rfl) ?_
    refine WL.done rfl ?_
    refine QX.then_normal (hK21 _ _ ?_)
    refine WC.ret ?_
    refine QX.then_ret ?_
    refine (hret _ _ _ rfl ?_).1
    clear hN hret hret' hK21 hK18 hK16 hK11 hK9 hK2
    exact ⟨rfl, hC14.fr⟩
  · -- (xs.length : Int) > 2000: false
    have t19 : (xs.length : Int) ≤ 2000 := by have q_ := of_decide_eq_false t19b; omega
    refine WC.cond_false rfl ?_
    refine WC.skip ?_
    refine QX.then_normal (hK16 _ _ ?_)
    refine WC.seq (fun K22 hK23 => ?_)
    refine WC.region ?_
    refine WL.runs 1 [(14, .pointer (some ⟨g3, 0, none⟩))] (fun _ => by kernel_rfl) ?_
    refine WL.load 25 (.pointer (some ⟨g3, 0, none⟩)) (.slice A xs.length c) 15 (by kernel_rfl) (run_ld (hC14.get 0 rfl) rfl) ?_
    refine WL.call rfl rfl rfl rfl rfl (by kernel_rfl) (mine_ct A c xs w13 (Rd.fr hr hC14.fr) (by omega)) ?_
    rintro _ w30 ⟨A24, c25, rfl, hF29, ho26⟩
    have hC31 := hC14.callN hF29 (own_ge ho26) (own_lt ho26)
    have ho27 := own_base (b' := 0) ho26 (fun _ _ => Nat.zero_le _)
    have ho28 := own_pre ho27
    refine ⟨_, rfl, ?_⟩
    refine WL.runs 1 [(3, .slice A24 xs.length c25)] (fun _ => by kernel_rfl) ?_
    refine WL.done rfl ?_
    refine QX.then_normal (hK23 _ _ ?_)
    refine WC.seq (fun K32 hK33 => ?_)
    refine WC.region ?_
    refine WL.runs 2 [(19, .pointer (some ⟨g3, 1, none⟩)), (18, .slice A24 xs.length c25)] (fun _ => by kernel_rfl) ?_
    refine WL.load 23 (.pointer (some ⟨g3, 1, none⟩)) (.int .u32 vip) 20 (by kernel_rfl) (run_ld (hC31.get 0 rfl) rfl) ?_
    refine WL.runs 1 [(21, .pointer (some ⟨g3, 3, none⟩))] (fun _ => by kernel_rfl) ?_
    refine WL.load 3 (.pointer (some ⟨g3, 3, none⟩)) (.int .i64 first) 22 (by kernel_rfl) (run_ld (hC31.get 0 rfl) rfl) ?_
    refine WL.runs 1 [(23, .pointer (some ⟨g3, 4, none⟩))] (fun _ => by kernel_rfl) ?_
    refine WL.load 3 (.pointer (some ⟨g3, 4, none⟩)) (.int .i64 now) 24 (by kernel_rfl) (run_ld (hC31.get 0 rfl) rfl) ?_
    refine WL.call rfl rfl rfl rfl rfl (by kernel_rfl) (Find_ct A24 c25 xs vip first now w30 (own_rd ho28 encL_len (by decide)) hwf (by first | omega | simp) (by omega)) ?_
    rintro _ w35 ⟨rfl, hF34⟩
    refine ⟨_, rfl, ?_⟩
    have hC36 := hC31.call hF34
    have ho37 := own_fr ho27 hF34 (by simp)
    have ho38 := own_fr ho28 hF34 (by simp)
    refine WL.runs 3 [(27, .bool (hasL (xs.filter (findP vip first now)))), (26, .agg #[.int .u32 ((headL (xs.filter (findP vip first now))).vip), .int .i64 ((headL (xs.filter (findP vip first now))).first), .int .u32 ((headL (xs.filter (findP vip first now))).dip), .int .i64 ((headL (xs.filter (findP vip first now))).exp)]), (17, .tuple #[.agg #[.int .u32 ((headL (xs.filter (findP vip first now))).vip), .int .i64 ((headL (xs.filter (findP vip first now))).first), .int .u32 ((headL (xs.filter (findP vip first now))).dip), .int .i64 ((headL (xs.filter (findP vip first now))).exp)], .bool (hasL (xs.filter (findP vip first now)))])] (fun _ => by kernel_rfl) ?_
    refine WL.newM hC36 (fun b => .pointer (some ⟨b, 0, none⟩)) (.cells #[.int .u32 0, .int .i64 0, .int .u32 0, .int .i64 0] 27) 4 (fun _ => by kernel_rfl) (fun g39 w40 hb43 hF41 hC42 => ?_)
    have ho44 := own_fr ho37 hF41 (by simp)
    have ho45 := own_fr ho38 hF41 (by simp)
    refine WL.storeM hC42 1 27 g39 0 (.agg #[.int .u32 ((headL (xs.filter (findP vip first now))).vip), .int .i64 ((headL (xs.filter (findP vip first now))).first), .int .u32 ((headL (xs.filter (findP vip first now))).dip), .int .i64 ((headL (xs.filter (findP vip first now))).exp)]) (by kernel_rfl) rfl rfl (fun w46 hF48 hC49 => ?_)
    have ho50 := own_fr ho44 hF48 (hC42.apartM 0 1 rfl rfl)
    have ho51 := own_fr ho45 hF48 (blk_al (n1 := (xs.length + 1)) (c1 := c25) (hC42.apartM 0 1 rfl rfl))
    refine WL.runs 1 [(5, .bool (hasL (xs.filter (findP vip first now))))] (fun _ => by kernel_rfl) ?_
    refine WL.done rfl ?_
    refine QX.then_normal (hK33 _ _ ?_)
    refine WC.seq (fun K52 hK53 => ?_)
    refine WC.region ?_
    refine WL.runs 1 [(29, .pointer (some ⟨g3, 0, none⟩))] (fun _ => by kernel_rfl) ?_
    refine WL.load 25 (.pointer (some ⟨g3, 0, none⟩)) (.slice A xs.length c) 30 (by kernel_rfl) (run_ld (hC49.get 0 rfl) rfl) ?_
    refine WL.runs 1 [(31, .pointer (some ⟨g3, 1, none⟩))] (fun _ => by kernel_rfl) ?_
    refine WL.load 23 (.pointer (some ⟨g3, 1, none⟩)) (.int .u32 vip) 32 (by kernel_rfl) (run_ld (hC49.get 0 rfl) rfl) ?_
    refine WL.runs 1 [(33, .pointer (some ⟨g3, 3, none⟩))] (fun _ => by kernel_rfl) ?_
    refine WL.load 3 (.pointer (some ⟨g3, 3, none⟩)) (.int .i64 first) 34 (by kernel_rfl) (run_ld (hC49.get 0 rfl) rfl) ?_
    refine WL.runs 1 [(35, .pointer (some ⟨g3, 4, none⟩))] (fun _ => by kernel_rfl) ?_
    refine WL.load 3 (.pointer (some ⟨g3, 4, none⟩)) (.int .i64 now) 36 (by kernel_rfl) (run_ld (hC49.get 0 rfl) rfl) ?_
    refine WL.call rfl rfl rfl rfl rfl (by kernel_rfl) (Find2_ct A c xs vip first now w46 (Rd.fr hr hC49.fr) hwf (by first | omega | simp) (by omega)) ?_
    rintro _ w55 ⟨rfl, hF54⟩
    refine ⟨_, rfl, ?_⟩
    have hC56 := hC49.call hF54
    have ho57 := own_fr ho50 hF54 (by simp)
    have ho58 := own_fr ho51 hF54 (by simp)
    refine WL.runs 3 [(39, .bool (hasL (xs.filter (findP vip first now)))), (38, .agg #[.int .u32 ((headL (xs.filter (findP vip first now))).vip), .int .i64 ((headL (xs.filter (findP vip first now))).first), .int .u32 ((headL (xs.filter (findP vip first now))).dip), .int .i64 ((headL (xs.filter (findP vip first now))).exp)]), (28, .tuple #[.agg #[.int .u32 ((headL (xs.filter (findP vip first now))).vip), .int .i64 ((headL (xs.filter (findP vip first now))).first), .int .u32 ((headL (xs.filter (findP vip first now))).dip), .int .i64 ((headL (xs.filter (findP vip first now))).exp)], .bool (hasL (xs.filter (findP vip first now)))])] (fun _ => by kernel_rfl) ?_
    refine WL.newM hC56 (fun b => .pointer (some ⟨b, 0, none⟩)) (.cells #[.int .u32 0, .int .i64 0, .int .u32 0, .int .i64 0] 27) 6 (fun _ => by kernel_rfl) (fun g59 w60 hb63 hF61 hC62 => ?_)
    have ho64 := own_fr ho57 hF61 (by simp)
    have ho65 := own_fr ho58 hF61 (by simp)
    refine WL.storeM hC62 2 27 g59 0 (.agg #[.int .u32 ((headL (xs.filter (findP vip first now))).vip), .int .i64 ((headL (xs.filter (findP vip first now))).first), .int .u32 ((headL (xs.filter (findP vip first now))).dip), .int .i64 ((headL (xs.filter (findP vip first now))).exp)]) (by kernel_rfl) rfl rfl (fun w66 hF68 hC69 => ?_)
    have ho70 := own_fr ho64 hF68 (hC62.apartM 0 2 rfl rfl)
    have ho71 := own_fr ho65 hF68 (blk_al (n1 := (xs.length + 1)) (c1 := c25) (hC62.apartM 0 2 rfl rfl))
    refine WL.runs 1 [(7, .bool (hasL (xs.filter (findP vip first now))))] (fun _ => by kernel_rfl) ?_
    refine WL.done rfl ?_
    refine QX.then_normal (hK53 _ _ ?_)
    refine WC.seq (fun K72 hK73 => ?_)
    refine WC.drawC hC69 [] (by kernel_rfl) (fun w74 hF75 hC76 hS77 => ?_)
    have ho78 := own_fr ho70 hF75 (by simp)
    have ho79 := own_fr ho71 hF75 (by simp)
    refine WD.load (NoPanic.then hN) 0 27 (.pointer (some ⟨g39, 0, none⟩)) (.agg #[.int .u32 ((headL (xs.filter (findP vip first now))).vip), .int .i64 ((headL (xs.filter (findP vip first now))).first), .int .u32 ((headL (xs.filter (findP vip first now))).dip), .int .i64 ((headL (xs.filter (findP vip first now))).exp)]) 40 (by kernel_rfl) (by kernel_rfl) (fun _ hS_ => run_ld (Fr.has hS_ (hC76.get 1 rfl) (by simp)) rfl) hS77 ?_
    refine WD.load (NoPanic.then hN) 1 27 (.pointer (some ⟨g59, 0, none⟩)) (.agg #[.int .u32 ((headL (xs.filter (findP vip first now))).vip), .int .i64 ((headL (xs.filter (findP vip first now))).first), .int .u32 ((headL (xs.filter (findP vip first now))).dip), .int .i64 ((headL (xs.filter (findP vip first now))).exp)]) 41 (by kernel_rfl) (by kernel_rfl) (fun _ hS_ => run_ld (Fr.has hS_ (hC76.get 2 rfl) (by simp)) rfl) hS77 ?_
    have hr80 : ∀ w_, Sem.run Tryd.prog (do eqGuard .eql 27 (Operand.tmp 40) (Operand.tmp 41) (.agg #[.int .u32 ((headL (xs.filter (findP vip first now))).vip), .int .i64 ((headL (xs.filter (findP vip first now))).first), .int .u32 ((headL (xs.filter (findP vip first now))).dip), .int .i64 ((headL (xs.filter (findP vip first now))).exp)]) (.agg #[.int .u32 ((headL (xs.filter (findP vip first now))).vip), .int .i64 ((headL (xs.filter (findP vip first now))).first), .int .u32 ((headL (xs.filter (findP vip first now))).dip), .int .i64 ((headL (xs.filter (findP vip first now))).exp)]); binOp .eql 27 (.agg #[.int .u32 ((headL (xs.filter (findP vip first now))).vip), .int .i64 ((headL (xs.filter (findP vip first now))).first), .int .u32 ((headL (xs.filter (findP vip first now))).dip), .int .i64 ((headL (xs.filter (findP vip first now))).exp)]) (.agg #[.int .u32 ((headL (xs.filter (findP vip first now))).vip), .int .i64 ((headL (xs.filter (findP vip first now))).first), .int .u32 ((headL (xs.filter (findP vip first now))).dip), .int .i64 ((headL (xs.filter (findP vip first now))).exp)])) w_ = .ok (.bool (((headL (xs.filter (findP vip first now))).vip) == ((headL (xs.filter (findP vip first now))).vip) && (((headL (xs.filter (findP vip first now))).first) == ((headL (xs.filter (findP vip first now))).first) && (((headL (xs.filter (findP vip first now))).dip) == ((headL (xs.filter (findP vip first now))).dip) && (((headL (xs.filter (findP vip first now))).exp) == ((headL (xs.filter (findP vip first now))).exp) && true))))) w_ := fun w_ => (run_eql_S (by kernel_rfl))
    refine WD.semP (NoPanic.then hN) 2 (do eqGuard .eql 27 (Operand.tmp 40) (Operand.tmp 41) (.agg #[.int .u32 ((headL (xs.filter (findP vip first now))).vip), .int .i64 ((headL (xs.filter (findP vip first now))).first), .int .u32 ((headL (xs.filter (findP vip first now))).dip), .int .i64 ((headL (xs.filter (findP vip first now))).exp)]) (.agg #[.int .u32 ((headL (xs.filter (findP vip first now))).vip), .int .i64 ((headL (xs.filter (findP vip first now))).first), .int .u32 ((headL (xs.filter (findP vip first now))).dip), .int .i64 ((headL (xs.filter (findP vip first now))).exp)]); binOp .eql 27 (.agg #[.int .u32 ((headL (xs.filter (findP vip first now))).vip), .int .i64 ((headL (xs.filter (findP vip first now))).first), .int .u32 ((headL (xs.filter (findP vip first now))).dip), .int .i64 ((headL (xs.filter (findP vip first now))).exp)]) (.agg #[.int .u32 ((headL (xs.filter (findP vip first now))).vip), .int .i64 ((headL (xs.filter (findP vip first now))).first), .int .u32 ((headL (xs.filter (findP vip first now))).dip), .int .i64 ((headL (xs.filter (findP vip first now))).exp)])) 42 (.bool (((headL (xs.filter (findP vip first now))).vip) == ((headL (xs.filter (findP vip first now))).vip) && (((headL (xs.filter (findP vip first now))).first) == ((headL (xs.filter (findP vip first now))).first) && (((headL (xs.filter (findP vip first now))).dip) == ((headL (xs.filter (findP vip first now))).dip) && (((headL (xs.filter (findP vip first now))).exp) == ((headL (xs.filter (findP vip first now))).exp) && true))))) (by kernel_rfl) (by kernel_rfl) (fun _ _ => hr80 _) hS77 ?_
    refine WD.pure (NoPanic.then hN) 3 43 (.bool (((headL (xs.filter (findP vip first now))).vip) == ((headL (xs.filter (findP vip first now))).vip) && (((headL (xs.filter (findP vip first now))).first) == ((headL (xs.filter (findP vip first now))).first) && (((headL (xs.filter (findP vip first now))).dip) == ((headL (xs.filter (findP vip first now))).dip) && (((headL (xs.filter (findP vip first now))).exp) == ((headL (xs.filter (findP vip first now))).exp) && true))))) (by kernel_rfl) (fun _ => by kernel_rfl) hS77 ?_
    refine WD.know 43 (.bool (((headL (xs.filter (findP vip first now))).vip) == ((headL (xs.filter (findP vip first now))).vip) && (((headL (xs.filter (findP vip first now))).first) == ((headL (xs.filter (findP vip first now))).first) && (((headL (xs.filter (findP vip first now))).dip) == ((headL (xs.filter (findP vip first now))).dip) && (((headL (xs.filter (findP vip first now))).exp) == ((headL (xs.filter (findP vip first now))).exp) && true))))) (.bool true) rfl (congrArg Value.bool (by simp)) ?_
    refine WD.pure (NoPanic.then hN) 4 44 (.bool (hasL (xs.filter (findP vip first now)))) (by kernel_rfl) (fun _ => by kernel_rfl) hS77 ?_
    refine WD.pure (NoPanic.then hN) 5 45 (.bool (hasL (xs.filter (findP vip first now)))) (by kernel_rfl) (fun _ => by kernel_rfl) hS77 ?_
    refine WD.pure (NoPanic.then hN) 6 46 (.bool ((hasL (xs.filter (findP vip first now))) == (hasL (xs.filter (findP vip first now))))) (by kernel_rfl) (fun _ => by kernel_rfl) hS77 ?_
    refine WD.pure (NoPanic.then hN) 7 47 (.bool ((hasL (xs.filter (findP vip first now))) == (hasL (xs.filter (findP vip first now))))) (by kernel_rfl) (fun _ => by kernel_rfl) hS77 ?_
    refine WD.pure (NoPanic.then hN) 8 48 (.bool ((hasL (xs.filter (findP vip first now))) == (hasL (xs.filter (findP vip first now))))) (by kernel_rfl) (fun _ => by kernel_rfl) hS77 ?_
    refine WD.know 48 (.bool ((hasL (xs.filter (findP vip first now))) == (hasL (xs.filter (findP vip first now))))) (.bool true) rfl (congrArg Value.bool (by simp)) ?_
    refine WD.pure (NoPanic.then hN) 9 49 (.slice A24 xs.length c25) (by kernel_rfl) (fun _ => by kernel_rfl) hS77 ?_
    refine WD.pure (NoPanic.then hN) 10 50 (.pointer (some ⟨g3, 2, none⟩)) (by kernel_rfl) (fun _ => by kernel_rfl) hS77 ?_
    refine WD.pure (NoPanic.then hN) 12 52 (.pointer (some ⟨g3, 4, none⟩)) (by kernel_rfl) (fun _ => by kernel_rfl) hS77 ?_
    refine WD.pure (NoPanic.then hN) 15 55 (.pointer (some ⟨g3, 0, none⟩)) (by kernel_rfl) (fun _ => by kernel_rfl) hS77 ?_
    refine WD.pure (NoPanic.then hN) 17 57 (.pointer (some ⟨g3, 2, none⟩)) (by kernel_rfl) (fun _ => by kernel_rfl) hS77 ?_
    refine WD.pure (NoPanic.then hN) 19 59 (.pointer (some ⟨g3, 4, none⟩)) (by kernel_rfl) (fun _ => by kernel_rfl) hS77 ?_
    refine WD.load (NoPanic.then hN) 11 23 (.pointer (some ⟨g3, 2, none⟩)) (.int .u32 dip) 51 (by kernel_rfl) (by kernel_rfl) (fun _ hS_ => run_ld (Fr.has hS_ (hC76.get 0 rfl) (by simp)) rfl) hS77 ?_
    refine WD.load (NoPanic.then hN) 13 3 (.pointer (some ⟨g3, 4, none⟩)) (.int .i64 now) 53 (by kernel_rfl) (by kernel_rfl) (fun _ hS_ => run_ld (Fr.has hS_ (hC76.get 0 rfl) (by simp)) rfl) hS77 ?_
    refine WD.load (NoPanic.then hN) 16 25 (.pointer (some ⟨g3, 0, none⟩)) (.slice A xs.length c) 56 (by kernel_rfl) (by kernel_rfl) (fun _ hS_ => run_ld (Fr.has hS_ (hC76.get 0 rfl) (by simp)) rfl) hS77 ?_
    refine WD.load (NoPanic.then hN) 18 23 (.pointer (some ⟨g3, 2, none⟩)) (.int .u32 dip) 58 (by kernel_rfl) (by kernel_rfl) (fun _ hS_ => run_ld (Fr.has hS_ (hC76.get 0 rfl) (by simp)) rfl) hS77 ?_
    refine WD.load (NoPanic.then hN) 20 3 (.pointer (some ⟨g3, 4, none⟩)) (.int .i64 now) 60 (by kernel_rfl) (by kernel_rfl) (fun _ hS_ => run_ld (Fr.has hS_ (hC76.get 0 rfl) (by simp)) rfl) hS77 ?_
    refine WD.call 14 (by kernel_rfl) rfl rfl rfl rfl rfl (by kernel_rfl) (Of_ct A24 c25 xs dip now w74 (own_rd ho79 encL_len (by decide)) hwf (by first | omega | simp)) ?_
    rintro _ w83 ⟨v_, rfl, hF82, ho81⟩
    have hC84 := hC76.callN hF82 (own_ge ho81) (own_lt ho81)
    obtain ⟨A85, c86, rfl, hle87⟩ := own_form ho81
    have ho89 := own_base (b' := 0) ho81 (fun _ _ => Nat.zero_le _)
    have hS90 := hS77.trans hF82 (by simp)
    refine ⟨_, rfl, hS90, ?_⟩
    have ho91 := own_fr ho78 hF82 (by simp)
    have ho92 := own_fr ho79 hF82 (by simp)
    refine WD.call 21 (by kernel_rfl) rfl rfl rfl rfl rfl (by kernel_rfl) (Of2_ct A c xs dip now w83 (Rd.fr hr hC84.fr) hwf (by first | omega | simp)) ?_
    rintro _ w96 ⟨v_, rfl, hF95, ho94⟩
    have hC97 := hC84.callN hF95 (own_ge ho94) (own_lt ho94)
    obtain ⟨A98, c99, rfl, hle100⟩ := own_form ho94
    have ho102 := own_base (b' := 0) ho94 (fun _ _ => Nat.zero_le _)
    have hS103 := hS90.trans hF95 (by simp)
    refine ⟨_, rfl, hS103, ?_⟩
    have ho104 := own_fr ho91 hF95 (by simp)
    have ho105 := own_fr ho92 hF95 (by simp)
    have ho106 := own_fr ho89 hF95 (by simp)
    refine WD.call 22 (by kernel_rfl) rfl rfl rfl rfl rfl (by kernel_rfl) (Same2_ct A85 c86 (xs.filter (ofP dip now)) A98 c99 (xs.filter (ofP dip now)) w96 (own_rd ho106 encL_len (by decide)) (own_rd ho102 encL_len (by decide)) (by first | omega | (simp; omega))) ?_
    rintro _ w109 ⟨rfl, hF108⟩
    have hS111 := hS103.trans hF108 (by simp)
    refine ⟨_, rfl, hS111, ?_⟩
    have hC110 := hC97.call hF108
    have ho112 := own_fr ho104 hF108 (by simp)
    have ho113 := own_fr ho105 hF108 (by simp)
    have ho114 := own_fr ho106 hF108 (by simp)
    have ho115 := own_fr ho102 hF108 (by simp)
    refine WD.pure (NoPanic.then hN) 23 63 (.bool (decide ((xs.filter (ofP dip now)) = (xs.filter (ofP dip now))))) (by kernel_rfl) (fun _ => by kernel_rfl) hS111 ?_
    refine WD.pure (NoPanic.then hN) 24 64 (.bool (decide ((xs.filter (ofP dip now)) = (xs.filter (ofP dip now))))) (by kernel_rfl) (fun _ => by kernel_rfl) hS111 ?_
    refine WD.know 64 (.bool (decide ((xs.filter (ofP dip now)) = (xs.filter (ofP dip now))))) (.bool true) rfl (congrArg Value.bool (by simp)) ?_
    refine WD.pure (NoPanic.then hN) 25 65 (.slice A24 xs.length c25) (by kernel_rfl) (fun _ => by kernel_rfl) hS111 ?_
    refine WD.pure (NoPanic.then hN) 26 66 (.pointer (some ⟨g3, 4, none⟩)) (by kernel_rfl) (fun _ => by kernel_rfl) hS111 ?_
    refine WD.pure (NoPanic.then hN) 29 69 (.pointer (some ⟨g3, 0, none⟩)) (by kernel_rfl) (fun _ => by kernel_rfl) hS111 ?_
    refine WD.pure (NoPanic.then hN) 31 71 (.pointer (some ⟨g3, 4, none⟩)) (by kernel_rfl) (fun _ => by kernel_rfl) hS111 ?_
    refine WD.load (NoPanic.then hN) 27 3 (.pointer (some ⟨g3, 4, none⟩)) (.int .i64 now) 67 (by kernel_rfl) (by kernel_rfl) (fun _ hS_ => run_ld (Fr.has hS_ (hC76.get 0 rfl) (by simp)) rfl) hS111 ?_
    refine WD.load (NoPanic.then hN) 30 25 (.pointer (some ⟨g3, 0, none⟩)) (.slice A xs.length c) 70 (by kernel_rfl) (by kernel_rfl) (fun _ hS_ => run_ld (Fr.has hS_ (hC76.get 0 rfl) (by simp)) rfl) hS111 ?_
    refine WD.load (NoPanic.then hN) 32 3 (.pointer (some ⟨g3, 4, none⟩)) (.int .i64 now) 72 (by kernel_rfl) (by kernel_rfl) (fun _ hS_ => run_ld (Fr.has hS_ (hC76.get 0 rfl) (by simp)) rfl) hS111 ?_
    refine WD.call 28 (by kernel_rfl) rfl rfl rfl rfl rfl (by kernel_rfl) (Prune_ct A24 c25 xs now w109 (own_rd ho113 encL_len (by decide)) hwf (by first | omega | simp)) ?_
    rintro _ w118 ⟨v_, rfl, hF117, ho116⟩
    have hC119 := hC110.callN hF117 (own_ge ho116) (own_lt ho116)
    obtain ⟨A120, c121, rfl, hle122⟩ := own_form ho116
    have ho124 := own_base (b' := 0) ho116 (fun _ _ => Nat.zero_le _)
    have hS125 := hS111.trans hF117 (by simp)
    refine ⟨_, rfl, hS125, ?_⟩
    have ho126 := own_fr ho112 hF117 (by simp)
    have ho127 := own_fr ho113 hF117 (by simp)
    have ho128 := own_fr ho114 hF117 (by simp)
    have ho129 := own_fr ho115 hF117 (by simp)
    refine WD.call 33 (by kernel_rfl) rfl rfl rfl rfl rfl (by kernel_rfl) (Prune2_ct A c xs now w118 (Rd.fr hr hC119.fr) hwf (by first | omega | simp)) ?_
    rintro _ w133 ⟨v_, rfl, hF132, ho131⟩
    have hC134 := hC119.callN hF132 (own_ge ho131) (own_lt ho131)
    obtain ⟨A135, c136, rfl, hle137⟩ := own_form ho131
    have ho139 := own_base (b' := 0) ho131 (fun _ _ => Nat.zero_le _)
    have hS140 := hS125.trans hF132 (by simp)
    refine ⟨_, rfl, hS140, ?_⟩
    have ho141 := own_fr ho126 hF132 (by simp)
    have ho142 := own_fr ho127 hF132 (by simp)
    have ho143 := own_fr ho128 hF132 (by simp)
    have ho144 := own_fr ho129 hF132 (by simp)
    have ho145 := own_fr ho124 hF132 (by simp)
    refine WD.call 34 (by kernel_rfl) rfl rfl rfl rfl rfl (by kernel_rfl) (Same2_ct A120 c121 (xs.filter (pruneP now)) A135 c136 (xs.filter (pruneP now)) w133 (own_rd ho145 encL_len (by decide)) (own_rd ho139 encL_len (by decide)) (by first | omega | (simp; omega))) ?_
    rintro _ w148 ⟨rfl, hF147⟩
    have hS150 := hS140.trans hF147 (by simp)
    refine ⟨_, rfl, hS150, ?_⟩
    have hC149 := hC134.call hF147
    have ho151 := own_fr ho141 hF147 (by simp)
    have ho152 := own_fr ho142 hF147 (by simp)
    have ho153 := own_fr ho143 hF147 (by simp)
    have ho154 := own_fr ho144 hF147 (by simp)
    have ho155 := own_fr ho145 hF147 (by simp)
    have ho156 := own_fr ho139 hF147 (by simp)
    refine WD.pure (NoPanic.then hN) 35 75 (.bool (decide ((xs.filter (pruneP now)) = (xs.filter (pruneP now))))) (by kernel_rfl) (fun _ => by kernel_rfl) hS150 ?_
    refine WD.pure (NoPanic.then hN) 36 76 (.bool (decide ((xs.filter (pruneP now)) = (xs.filter (pruneP now))))) (by kernel_rfl) (fun _ => by kernel_rfl) hS150 ?_
    refine WD.know 76 (.bool (decide ((xs.filter (pruneP now)) = (xs.filter (pruneP now))))) (.bool true) rfl (congrArg Value.bool (by simp)) ?_
    refine WD.pure (NoPanic.then hN) 37 77 (.slice A24 xs.length c25) (by kernel_rfl) (fun _ => by kernel_rfl) hS150 ?_
    refine WD.pure (NoPanic.then hN) 38 78 (.pointer (some ⟨g3, 0, none⟩)) (by kernel_rfl) (fun _ => by kernel_rfl) hS150 ?_
    refine WD.load (NoPanic.then hN) 39 25 (.pointer (some ⟨g3, 0, none⟩)) (.slice A xs.length c) 79 (by kernel_rfl) (by kernel_rfl) (fun _ hS_ => run_ld (Fr.has hS_ (hC76.get 0 rfl) (by simp)) rfl) hS150 ?_
    refine WD.call 40 (by kernel_rfl) rfl rfl rfl rfl rfl (by kernel_rfl) (kept_ct A24 c25 xs A c w148 (own_rd ho151 encL_len (by decide)) (Rd.fr hr hC149.fr) (own_le ho151) (by omega)) ?_
    rintro _ w158 ⟨rfl, hF157⟩
    have hS160 := hS150.trans hF157 (by simp)
    refine ⟨_, rfl, hS160, ?_⟩
    have hC159 := hC149.call hF157
    have ho161 := own_fr ho151 hF157 (by simp)
    have ho162 := own_fr ho152 hF157 (by simp)
    have ho163 := own_fr ho153 hF157 (by simp)
    have ho164 := own_fr ho154 hF157 (by simp)
    have ho165 := own_fr ho155 hF157 (by simp)
    have ho166 := own_fr ho156 hF157 (by simp)
    refine WD.pure (NoPanic.then hN) 41 81 (.bool true) (by kernel_rfl) (fun _ => by kernel_rfl) hS160 ?_
    refine WD.pure (NoPanic.then hN) 42 2 (.bool true) (by kernel_rfl) (fun _ => by kernel_rfl) hS160 ?_
    refine WD.done (by kernel_rfl) ?_
    refine QX.then_normal (hK73 _ _ ?_)
    refine WC.ret ?_
    refine (hret _ _ _ rfl ?_).1
    clear hN hret hret' hK73 hK53 hK33 hK23 hK18 hK16 hK11 hK9 hK2
    exact ⟨rfl, hC159.fr⟩

theorem rnX_len (xs : List Lease) (vip first dip now : Int) : (rnX xs vip first dip now).length ≤ 2 * xs.length + 1 := by
  unfold rnX
  split
  · exact len_insL _ _
  · simp
set_option maxHeartbeats 2000000 in
theorem LeaseGrants_ct (A : Option Addr) (c : Nat) (xs : List Lease) (vip dip first now : Int) (w : World) (hr : Rd w 4 encL A xs) (hwf : ∀ l ∈ xs, okL l) (hvip : 0 ≤ vip ∧ vip ≤ 4294967295) (hdip : 0 ≤ dip ∧ dip ≤ 4294967295) (hfirst : -9223372036854775808 ≤ first ∧ first ≤ 9223372036854775807) (hnow : -9223372036854775808 ≤ now ∧ now ≤ 9223372036854775807) (hg : Rd w 1 (encI .u8) (some ⟨0, 0, none⟩) dbTab) : Calls Tryd.prog 7 #[.agg #[.slice A xs.length c, .int .u32 vip, .int .u32 dip, .int .i64 first, .int .i64 now]] w fun e w' => e = .returned (.bool true) ∧ Fr w w' [] := by
  refine enterD (n := 141) Tryd.func7 rfl rfl (Nat.le_of_ble_eq_true rfl) ?_
  intro Q0 hN hret hret'
  have hgl_ := grX_len xs vip dip now
  have hrl_ := rnX_len xs vip first dip now
  have hC := Cx.start w
  refine WC.seq (fun K1 hK2 => ?_)
  refine WC.region ?_
  refine WL.newM hC (fun b => .pointer (some ⟨b, 0, none⟩)) (.cells #[.slice A xs.length c, .int .u32 vip, .int .u32 dip, .int .i64 first, .int .i64 now] 37) 1 (fun _ => by kernel_rfl) (fun g3 w4 hb7 hF5 hC6 => ?_)
  refine WL.runs 1 [(2, .bool false)] (fun _ => by kernel_rfl) ?_
  refine WL.done rfl ?_
  refine QX.then_normal (hK2 _ _ ?_)
  refine WC.seq (fun K8 hK9 => ?_)
  refine WC.seq (fun K10 hK11 => ?_)
  refine WC.region ?_
  refine WL.call rfl rfl rfl rfl rfl (by kernel_rfl) (alive_ct w4 (Rd.fr hg hC6.fr)) ?_
  rintro _ w13 ⟨rfl, hF12⟩
  refine ⟨_, rfl, ?_⟩
  have hC14 := hC6.call hF12
  refine WL.runs 1 [(18, .bool false)] (fun _ => by kernel_rfl) ?_
  refine WL.done rfl ?_
  refine QX.then_normal (hK11 _ _ ?_)
  refine WC.cond_false rfl ?_
  refine WC.skip ?_
  refine QX.then_normal (hK9 _ _ ?_)
  refine WC.seq (fun K15 hK16 => ?_)
  refine WC.seq (fun K17 hK18 => ?_)
  refine WC.region ?_
  refine WL.runs 1 [(19, .pointer (some ⟨g3, 0, none⟩))] (fun _ => by kernel_rfl) ?_
  refine WL.load 25 (.pointer (some ⟨g3, 0, none⟩)) (.slice A xs.length c) 20 (by kernel_rfl) (run_ld (hC14.get 0 rfl) rfl) ?_
  refine WL.runs 2 [(22, .bool (decide ((xs.length : Int) > 150))), (21, .int .i64 (xs.length : Int))] (fun _ => by kernel_rfl) ?_
  refine WL.done rfl ?_
  refine QX.then_normal (hK18 _ _ ?_)
  refine WC.test_at 22 (decide ((xs.length : Int) > 150)) rfl (fun t19b => ?_) (fun t19b => ?_)
  · -- (xs.length : Int) > 150: true
    have t19 : (150 : Int) < (xs.length : Int) := by have q_ := of_decide_eq_true t19b; omega
    refine WC.cond_true rfl ?_
    refine WC.seq (fun K20 hK21 => ?_)
    refine WC.region ?_
    refine WL.runs 1 [(2, .bool true)] (fun _ => by kernel_rfl) ?_
    refine WL.done rfl ?_
    refine QX.then_normal (hK21 _ _ ?_)
    refine WC.ret ?_
    refine QX.then_ret ?_
    refine (hret _ _ _ rfl ?_).1
    clear hN hret hret' hK21 hK18 hK16 hK11 hK9 hK2
    exact ⟨rfl, hC14.fr⟩
  · -- (xs.length : Int) > 150: false
    have t19 : (xs.length : Int) ≤ 150 := by have q_ := of_decide_eq_false t19b; omega
    refine WC.cond_false rfl ?_
    refine WC.skip ?_
    refine QX.then_normal (hK16 _ _ ?_)
    refine WC.seq (fun K22 hK23 => ?_)
    refine WC.region ?_
    refine WL.runs 1 [(23, .pointer (some ⟨g3, 0, none⟩))] (fun _ => by kernel_rfl) ?_
    refine WL.load 25 (.pointer (some ⟨g3, 0, none⟩)) (.slice A xs.length c) 24 (by kernel_rfl) (run_ld (hC14.get 0 rfl) rfl) ?_
    refine WL.call rfl rfl rfl rfl rfl (by kernel_rfl) (mine_ct A c xs w13 (Rd.fr hr hC14.fr) (by omega)) ?_
    rintro _ w30 ⟨A24, c25, rfl, hF29, ho26⟩
    have hC31 := hC14.callN hF29 (own_ge ho26) (own_lt ho26)
    have ho27 := own_base (b' := 0) ho26 (fun _ _ => Nat.zero_le _)
    have ho28 := own_pre ho27
    refine ⟨_, rfl, ?_⟩
    refine WL.runs 1 [(3, .slice A24 xs.length c25)] (fun _ => by kernel_rfl) ?_
    refine WL.done rfl ?_
    refine QX.then_normal (hK23 _ _ ?_)
    refine WC.seq (fun K32 hK33 => ?_)
    refine WC.region ?_
    refine WL.runs 2 [(28, .pointer (some ⟨g3, 1, none⟩)), (27, .slice A24 xs.length c25)] (fun _ => by kernel_rfl) ?_
    refine WL.load 23 (.pointer (some ⟨g3, 1, none⟩)) (.int .u32 vip) 29 (by kernel_rfl) (run_ld (hC31.get 0 rfl) rfl) ?_
    refine WL.runs 1 [(30, .pointer (some ⟨g3, 2, none⟩))] (fun _ => by kernel_rfl) ?_
    refine WL.load 23 (.pointer (some ⟨g3, 2, none⟩)) (.int .u32 dip) 31 (by kernel_rfl) (run_ld (hC31.get 0 rfl) rfl) ?_
    refine WL.runs 1 [(32, .pointer (some ⟨g3, 4, none⟩))] (fun _ => by kernel_rfl) ?_
    refine WL.load 3 (.pointer (some ⟨g3, 4, none⟩)) (.int .i64 now) 33 (by kernel_rfl) (run_ld (hC31.get 0 rfl) rfl) ?_
    refine WL.call rfl rfl rfl rfl rfl (by kernel_rfl) (Grant_ct A24 c25 xs vip dip now w30 (own_rd ho28 encL_len (by decide)) hwf (by first | omega | simp) (by omega) (by omega) (Rd.fr hg hC31.fr)) ?_
    rintro _ w36 ⟨v_, rfl, hF35, ho34⟩
    have hC37 := hC31.callN hF35 (own_ge ho34) (own_lt ho34)
    obtain ⟨A38, c39, rfl, hle40⟩ := own_form ho34
    have ho42 := own_base (b' := 0) ho34 (fun _ _ => Nat.zero_le _)
    refine ⟨_, rfl, ?_⟩
    have ho43 := own_fr ho27 hF35 (by simp)
    have ho44 := own_fr ho28 hF35 (by simp)
    refine WL.runs 4 [(37, errV 32 (grE xs vip dip now)), (36, .agg #[.int .u32 ((grL xs vip dip now).vip), .int .i64 ((grL xs vip dip now).first), .int .u32 ((grL xs vip dip now).dip), .int .i64 ((grL xs vip dip now).exp)]), (35, .slice A38 ((grX xs vip dip now).length) c39), (26, .tuple #[.slice A38 ((grX xs vip dip now).length) c39, .agg #[.int .u32 ((grL xs vip dip now).vip), .int .i64 ((grL xs vip dip now).first), .int .u32 ((grL xs vip dip now).dip), .int .i64 ((grL xs vip dip now).exp)], errV 32 (grE xs vip dip now)])] (fun _ => by kernel_rfl) ?_
    refine WL.newM hC37 (fun b => .pointer (some ⟨b, 0, none⟩)) (.cells #[.int .u32 0, .int .i64 0, .int .u32 0, .int .i64 0] 27) 5 (fun _ => by kernel_rfl) (fun g46 w47 hb50 hF48 hC49 => ?_)
    have ho51 := own_fr ho43 hF48 (by simp)
    have ho52 := own_fr ho44 hF48 (by simp)
    have ho53 := own_fr ho42 hF48 (by simp)
    refine WL.runs 1 [(4, .slice A38 ((grX xs vip dip now).length) c39)] (fun _ => by kernel_rfl) ?_
    refine WL.storeM hC49 1 27 g46 0 (.agg #[.int .u32 ((grL xs vip dip now).vip), .int .i64 ((grL xs vip dip now).first), .int .u32 ((grL xs vip dip now).dip), .int .i64 ((grL xs vip dip now).exp)]) (by kernel_rfl) rfl rfl (fun w54 hF56 hC57 => ?_)
    have ho58 := own_fr ho51 hF56 (hC49.apartM 0 1 rfl rfl)
    have ho59 := own_fr ho52 hF56 (blk_al (n1 := (xs.length + 1)) (c1 := c25) (hC49.apartM 0 1 rfl rfl))
    have ho60 := own_fr ho53 hF56 (hC49.apartM 1 1 rfl rfl)
    refine WL.runs 1 [(6, errV 32 (grE xs vip dip now))] (fun _ => by kernel_rfl) ?_
    refine WL.done rfl ?_
    refine QX.then_normal (hK33 _ _ ?_)
    refine WC.seq (fun K61 hK62 => ?_)
    refine WC.region ?_
    refine WL.runs 1 [(39, .pointer (some ⟨g3, 0, none⟩))] (fun _ => by kernel_rfl) ?_
    refine WL.load 25 (.pointer (some ⟨g3, 0, none⟩)) (.slice A xs.length c) 40 (by kernel_rfl) (run_ld (hC57.get 0 rfl) rfl) ?_
    refine WL.runs 1 [(41, .pointer (some ⟨g3, 1, none⟩))] (fun _ => by kernel_rfl) ?_
    refine WL.load 23 (.pointer (some ⟨g3, 1, none⟩)) (.int .u32 vip) 42 (by kernel_rfl) (run_ld (hC57.get 0 rfl) rfl) ?_
    refine WL.runs 1 [(43, .pointer (some ⟨g3, 2, none⟩))] (fun _ => by kernel_rfl) ?_
    refine WL.load 23 (.pointer (some ⟨g3, 2, none⟩)) (.int .u32 dip) 44 (by kernel_rfl) (run_ld (hC57.get 0 rfl) rfl) ?_
    refine WL.runs 1 [(45, .pointer (some ⟨g3, 4, none⟩))] (fun _ => by kernel_rfl) ?_
    refine WL.load 3 (.pointer (some ⟨g3, 4, none⟩)) (.int .i64 now) 46 (by kernel_rfl) (run_ld (hC57.get 0 rfl) rfl) ?_
    refine WL.call rfl rfl rfl rfl rfl (by kernel_rfl) (Grant2_ct A c xs vip dip now w54 (Rd.fr hr hC57.fr) hwf (by first | omega | simp) (by omega) (by omega)) ?_
    rintro _ w65 ⟨v_, rfl, hF64, ho63⟩
    have hC66 := hC57.callN hF64 (own_ge ho63) (own_lt ho63)
    obtain ⟨A67, c68, rfl, hle69⟩ := own_form ho63
    have ho71 := own_base (b' := 0) ho63 (fun _ _ => Nat.zero_le _)
    refine ⟨_, rfl, ?_⟩
    have ho72 := own_fr ho58 hF64 (by simp)
    have ho73 := own_fr ho59 hF64 (by simp)
    have ho74 := own_fr ho60 hF64 (by simp)
    refine WL.runs 4 [(50, .int .i64 (grE xs vip dip now)), (49, .agg #[.int .u32 ((grL xs vip dip now).vip), .int .i64 ((grL xs vip dip now).first), .int .u32 ((grL xs vip dip now).dip), .int .i64 ((grL xs vip dip now).exp)]), (48, .slice A67 ((grX xs vip dip now).length) c68), (38, .tuple #[.slice A67 ((grX xs vip dip now).length) c68, .agg #[.int .u32 ((grL xs vip dip now).vip), .int .i64 ((grL xs vip dip now).first), .int .u32 ((grL xs vip dip now).dip), .int .i64 ((grL xs vip dip now).exp)], .int .i64 (grE xs vip dip now)])] (fun _ => by kernel_rfl) ?_
    refine WL.newM hC66 (fun b => .pointer (some ⟨b, 0, none⟩)) (.cells #[.int .u32 0, .int .i64 0, .int .u32 0, .int .i64 0] 27) 8 (fun _ => by kernel_rfl) (fun g76 w77 hb80 hF78 hC79 => ?_)
    have ho81 := own_fr ho72 hF78 (by simp)
    have ho82 := own_fr ho73 hF78 (by simp)
    have ho83 := own_fr ho74 hF78 (by simp)
    have ho84 := own_fr ho71 hF78 (by simp)
    refine WL.runs 1 [(7, .slice A67 ((grX xs vip dip now).length) c68)] (fun _ => by kernel_rfl) ?_
    refine WL.storeM hC79 2 27 g76 0 (.agg #[.int .u32 ((grL xs vip dip now).vip), .int .i64 ((grL xs vip dip now).first), .int .u32 ((grL xs vip dip now).dip), .int .i64 ((grL xs vip dip now).exp)]) (by kernel_rfl) rfl rfl (fun w85 hF87 hC88 => ?_)
    have ho89 := own_fr ho81 hF87 (hC79.apartM 0 2 rfl rfl)
    have ho90 := own_fr ho82 hF87 (blk_al (n1 := (xs.length + 1)) (c1 := c25) (hC79.apartM 0 2 rfl rfl))
    have ho91 := own_fr ho83 hF87 (hC79.apartM 1 2 rfl rfl)
    have ho92 := own_fr ho84 hF87 (hC79.apartM 2 2 rfl rfl)
    refine WL.runs 1 [(9, .int .i64 (grE xs vip dip now))] (fun _ => by kernel_rfl) ?_
    refine WL.done rfl ?_
    refine QX.then_normal (hK62 _ _ ?_)
    refine WC.seq (fun K93 hK94 => ?_)
    refine WC.seq (fun K95 hK96 => ?_)
    refine WC.region ?_
    refine WL.runs 2 [(52, .slice A67 ((grX xs vip dip now).length) c68), (51, .slice A38 ((grX xs vip dip now).length) c39)] (fun _ => by kernel_rfl) ?_
    refine WL.call rfl rfl rfl rfl rfl (by kernel_rfl) (Same2_ct A38 c39 (grX xs vip dip now) A67 c68 (grX xs vip dip now) w85 (own_rd ho91 encL_len (by decide)) (own_rd ho92 encL_len (by decide)) (by first | omega | (simp; omega))) ?_
    rintro _ w98 ⟨rfl, hF97⟩
    refine ⟨_, rfl, ?_⟩
    have hC99 := hC88.call hF97
    have ho100 := own_fr ho89 hF97 (by simp)
    have ho101 := own_fr ho90 hF97 (by simp)
    have ho102 := own_fr ho91 hF97 (by simp)
    have ho103 := own_fr ho92 hF97 (by simp)
    refine WL.runs 2 [(55, .bool (!(decide ((grX xs vip dip now) = (grX xs vip dip now))))), (54, .bool (!(decide ((grX xs vip dip now) = (grX xs vip dip now)))))] (fun _ => by kernel_rfl) ?_
    refine WL.know 55 (.bool (!(decide ((grX xs vip dip now) = (grX xs vip dip now))))) (.bool false) rfl (congrArg Value.bool (by simp)) ?_
    refine WL.load 27 (.pointer (some ⟨g46, 0, none⟩)) (.agg #[.int .u32 ((grL xs vip dip now).vip), .int .i64 ((grL xs vip dip now).first), .int .u32 ((grL xs vip dip now).dip), .int .i64 ((grL xs vip dip now).exp)]) 56 (by kernel_rfl) (run_ld (hC99.get 1 rfl) rfl) ?_
    refine WL.load 27 (.pointer (some ⟨g76, 0, none⟩)) (.agg #[.int .u32 ((grL xs vip dip now).vip), .int .i64 ((grL xs vip dip now).first), .int .u32 ((grL xs vip dip now).dip), .int .i64 ((grL xs vip dip now).exp)]) 57 (by kernel_rfl) (run_ld (hC99.get 2 rfl) rfl) ?_
    have hr104 : ∀ w_, Sem.run Tryd.prog (do eqGuard .neq 27 (Operand.tmp 56) (Operand.tmp 57) (.agg #[.int .u32 ((grL xs vip dip now).vip), .int .i64 ((grL xs vip dip now).first), .int .u32 ((grL xs vip dip now).dip), .int .i64 ((grL xs vip dip now).exp)]) (.agg #[.int .u32 ((grL xs vip dip now).vip), .int .i64 ((grL xs vip dip now).first), .int .u32 ((grL xs vip dip now).dip), .int .i64 ((grL xs vip dip now).exp)]); binOp .neq 27 (.agg #[.int .u32 ((grL xs vip dip now).vip), .int .i64 ((grL xs vip dip now).first), .int .u32 ((grL xs vip dip now).dip), .int .i64 ((grL xs vip dip now).exp)]) (.agg #[.int .u32 ((grL xs vip dip now).vip), .int .i64 ((grL xs vip dip now).first), .int .u32 ((grL xs vip dip now).dip), .int .i64 ((grL xs vip dip now).exp)])) w_ = .ok (.bool (!(((grL xs vip dip now).vip) == ((grL xs vip dip now).vip) && (((grL xs vip dip now).first) == ((grL xs vip dip now).first) && (((grL xs vip dip now).dip) == ((grL xs vip dip now).dip) && (((grL xs vip dip now).exp) == ((grL xs vip dip now).exp) && true)))))) w_ := fun w_ => (run_neq_S (by kernel_rfl))
    refine WL.sem (do eqGuard .neq 27 (Operand.tmp 56) (Operand.tmp 57) (.agg #[.int .u32 ((grL xs vip dip now).vip), .int .i64 ((grL xs vip dip now).first), .int .u32 ((grL xs vip dip now).dip), .int .i64 ((grL xs vip dip now).exp)]) (.agg #[.int .u32 ((grL xs vip dip now).vip), .int .i64 ((grL xs vip dip now).first), .int .u32 ((grL xs vip dip now).dip), .int .i64 ((grL xs vip dip now).exp)]); binOp .neq 27 (.agg #[.int .u32 ((grL xs vip dip now).vip), .int .i64 ((grL xs vip dip now).first), .int .u32 ((grL xs vip dip now).dip), .int .i64 ((grL xs vip dip now).exp)]) (.agg #[.int .u32 ((grL xs vip dip now).vip), .int .i64 ((grL xs vip dip now).first), .int .u32 ((grL xs vip dip now).dip), .int .i64 ((grL xs vip dip now).exp)])) 58 (.bool (!(((grL xs vip dip now).vip) == ((grL xs vip dip now).vip) && (((grL xs vip dip now).first) == ((grL xs vip dip now).first) && (((grL xs vip dip now).dip) == ((grL xs vip dip now).dip) && (((grL xs vip dip now).exp) == ((grL xs vip dip now).exp) && true)))))) (by kernel_rfl) (hr104 _) ?_
    refine WL.runs 2 [(60, .bool (!(((grL xs vip dip now).vip) == ((grL xs vip dip now).vip) && (((grL xs vip dip now).first) == ((grL xs vip dip now).first) && (((grL xs vip dip now).dip) == ((grL xs vip dip now).dip) && (((grL xs vip dip now).exp) == ((grL xs vip dip now).exp) && true)))))), (59, .bool (!(((grL xs vip dip now).vip) == ((grL xs vip dip now).vip) && (((grL xs vip dip now).first) == ((grL xs vip dip now).first) && (((grL xs vip dip now).dip) == ((grL xs vip dip now).dip) && (((grL xs vip dip now).exp) == ((grL xs vip dip now).exp) && true))))))] (fun _ => by kernel_rfl) ?_
    refine WL.know 60 (.bool (!(((grL xs vip dip now).vip) == ((grL xs vip dip now).vip) && (((grL xs vip dip now).first) == ((grL xs vip dip now).first) && (((grL xs vip dip now).dip) == ((grL xs vip dip now).dip) && (((grL xs vip dip now).exp) == ((grL xs vip dip now).exp) && true)))))) (.bool false) rfl (congrArg Value.bool (by simp)) ?_
    refine WL.runs 1 [(61, errV 32 (grE xs vip dip now))] (fun _ => by kernel_rfl) ?_
    refine WL.call rfl rfl rfl rfl rfl (by kernel_rfl) (Num_ct (grE xs vip dip now) w98) ?_
    rintro _ w106 ⟨rfl, hF105⟩
    refine ⟨_, rfl, ?_⟩
    have hC107 := hC99.call hF105
    have ho108 := own_fr ho100 hF105 (by simp)
    have ho109 := own_fr ho101 hF105 (by simp)
    have ho110 := own_fr ho102 hF105 (by simp)
    have ho111 := own_fr ho103 hF105 (by simp)
    refine WL.runs 4 [(66, .bool ((grE xs vip dip now) != (grE xs vip dip now))), (65, .bool ((grE xs vip dip now) != (grE xs vip dip now))), (64, .bool ((grE xs vip dip now) != (grE xs vip dip now))), (63, .int .i64 (grE xs vip dip now))] (fun _ => by kernel_rfl) ?_
    refine WL.know 66 (.bool ((grE xs vip dip now) != (grE xs vip dip now))) (.bool false) rfl (congrArg Value.bool (by simp)) ?_
    refine WL.runs 2 [(68, .pointer (some ⟨g3, 0, none⟩)), (67, .slice A24 xs.length c25)] (fun _ => by kernel_rfl) ?_
    refine WL.load 25 (.pointer (some ⟨g3, 0, none⟩)) (.slice A xs.length c) 69 (by kernel_rfl) (run_ld (hC107.get 0 rfl) rfl) ?_
    refine WL.call rfl rfl rfl rfl rfl (by kernel_rfl) (kept_ct A24 c25 xs A c w106 (own_rd ho108 encL_len (by decide)) (Rd.fr hr hC107.fr) (own_le ho108) (by omega)) ?_
    rintro _ w113 ⟨rfl, hF112⟩
    refine ⟨_, rfl, ?_⟩
    have hC114 := hC107.call hF112
    have ho115 := own_fr ho108 hF112 (by simp)
    have ho116 := own_fr ho109 hF112 (by simp)
    have ho117 := own_fr ho110 hF112 (by simp)
    have ho118 := own_fr ho111 hF112 (by simp)
    refine WL.runs 2 [(72, .bool false), (71, .bool false)] (fun _ => by kernel_rfl) ?_
    refine WL.done rfl ?_
    refine QX.then_normal (hK96 _ _ ?_)
    refine WC.cond_false rfl ?_
    refine WC.skip ?_
    refine QX.then_normal (hK94 _ _ ?_)
    refine WC.seq (fun K119 hK120 => ?_)
    refine WC.region ?_
    refine WL.runs 2 [(75, .pointer (some ⟨g3, 1, none⟩)), (74, .slice A24 xs.length c25)] (fun _ => by kernel_rfl) ?_
    refine WL.load 23 (.pointer (some ⟨g3, 1, none⟩)) (.int .u32 vip) 76 (by kernel_rfl) (run_ld (hC114.get 0 rfl) rfl) ?_
    refine WL.runs 1 [(77, .pointer (some ⟨g3, 3, none⟩))] (fun _ => by kernel_rfl) ?_
    refine WL.load 3 (.pointer (some ⟨g3, 3, none⟩)) (.int .i64 first) 78 (by kernel_rfl) (run_ld (hC114.get 0 rfl) rfl) ?_
    refine WL.runs 1 [(79, .pointer (some ⟨g3, 2, none⟩))] (fun _ => by kernel_rfl) ?_
    refine WL.load 23 (.pointer (some ⟨g3, 2, none⟩)) (.int .u32 dip) 80 (by kernel_rfl) (run_ld (hC114.get 0 rfl) rfl) ?_
    refine WL.runs 1 [(81, .pointer (some ⟨g3, 4, none⟩))] (fun _ => by kernel_rfl) ?_
    refine WL.load 3 (.pointer (some ⟨g3, 4, none⟩)) (.int .i64 now) 82 (by kernel_rfl) (run_ld (hC114.get 0 rfl) rfl) ?_
    refine WL.call rfl rfl rfl rfl rfl (by kernel_rfl) (Renew_ct A24 c25 xs vip first dip now w113 (own_rd ho116 encL_len (by decide)) hwf (by first | omega | simp)) ?_
    rintro _ w123 ⟨v_, rfl, hF122, ho121⟩
    have hC124 := hC114.callN hF122 (own_ge ho121) (own_lt ho121)
    obtain ⟨A125, c126, rfl, hle127⟩ := own_form ho121
    have ho129 := own_base (b' := 0) ho121 (fun _ _ => Nat.zero_le _)
    refine ⟨_, rfl, ?_⟩
    have ho130 := own_fr ho115 hF122 (by simp)
    have ho131 := own_fr ho116 hF122 (by simp)
    have ho132 := own_fr ho117 hF122 (by simp)
    have ho133 := own_fr ho118 hF122 (by simp)
    refine WL.runs 4 [(86, errV 32 (rnE xs vip first dip now)), (85, .agg #[.int .u32 ((rnL xs vip first dip now).vip), .int .i64 ((rnL xs vip first dip now).first), .int .u32 ((rnL xs vip first dip now).dip), .int .i64 ((rnL xs vip first dip now).exp)]), (84, .slice A125 ((rnX xs vip first dip now).length) c126), (73, .tuple #[.slice A125 ((rnX xs vip first dip now).length) c126, .agg #[.int .u32 ((rnL xs vip first dip now).vip), .int .i64 ((rnL xs vip first dip now).first), .int .u32 ((rnL xs vip first dip now).dip), .int .i64 ((rnL xs vip first dip now).exp)], errV 32 (rnE xs vip first dip now)])] (fun _ => by kernel_rfl) ?_
    refine WL.newM hC124 (fun b => .pointer (some ⟨b, 0, none⟩)) (.cells #[.int .u32 0, .int .i64 0, .int .u32 0, .int .i64 0] 27) 11 (fun _ => by kernel_rfl) (fun g135 w136 hb139 hF137 hC138 => ?_)
    have ho140 := own_fr ho130 hF137 (by simp)
    have ho141 := own_fr ho131 hF137 (by simp)
    have ho142 := own_fr ho132 hF137 (by simp)
    have ho143 := own_fr ho133 hF137 (by simp)
    have ho144 := own_fr ho129 hF137 (by simp)
    refine WL.runs 1 [(10, .slice A125 ((rnX xs vip first dip now).length) c126)] (fun _ => by kernel_rfl) ?_
    refine WL.storeM hC138 3 27 g135 0 (.agg #[.int .u32 ((rnL xs vip first dip now).vip), .int .i64 ((rnL xs vip first dip now).first), .int .u32 ((rnL xs vip first dip now).dip), .int .i64 ((rnL xs vip first dip now).exp)]) (by kernel_rfl) rfl rfl (fun w145 hF147 hC148 => ?_)
    have ho149 := own_fr ho140 hF147 (hC138.apartM 0 3 rfl rfl)
    have ho150 := own_fr ho141 hF147 (blk_al (n1 := (xs.length + 1)) (c1 := c25) (hC138.apartM 0 3 rfl rfl))
    have ho151 := own_fr ho142 hF147 (hC138.apartM 1 3 rfl rfl)
    have ho152 := own_fr ho143 hF147 (hC138.apartM 2 3 rfl rfl)
    have ho153 := own_fr ho144 hF147 (hC138.apartM 3 3 rfl rfl)
    refine WL.runs 1 [(12, errV 32 (rnE xs vip first dip now))] (fun _ => by kernel_rfl) ?_
    refine WL.done rfl ?_
    refine QX.then_normal (hK120 _ _ ?_)
    refine WC.seq (fun K154 hK155 => ?_)
    refine WC.region ?_
    refine WL.runs 1 [(88, .pointer (some ⟨g3, 0, none⟩))] (fun _ => by kernel_rfl) ?_
    refine WL.load 25 (.pointer (some ⟨g3, 0, none⟩)) (.slice A xs.length c) 89 (by kernel_rfl) (run_ld (hC148.get 0 rfl) rfl) ?_
    refine WL.runs 1 [(90, .pointer (some ⟨g3, 1, none⟩))] (fun _ => by kernel_rfl) ?_
    refine WL.load 23 (.pointer (some ⟨g3, 1, none⟩)) (.int .u32 vip) 91 (by kernel_rfl) (run_ld (hC148.get 0 rfl) rfl) ?_
    refine WL.runs 1 [(92, .pointer (some ⟨g3, 3, none⟩))] (fun _ => by kernel_rfl) ?_
    refine WL.load 3 (.pointer (some ⟨g3, 3, none⟩)) (.int .i64 first) 93 (by kernel_rfl) (run_ld (hC148.get 0 rfl) rfl) ?_
    refine WL.runs 1 [(94, .pointer (some ⟨g3, 2, none⟩))] (fun _ => by kernel_rfl) ?_
    refine WL.load 23 (.pointer (some ⟨g3, 2, none⟩)) (.int .u32 dip) 95 (by kernel_rfl) (run_ld (hC148.get 0 rfl) rfl) ?_
    refine WL.runs 1 [(96, .pointer (some ⟨g3, 4, none⟩))] (fun _ => by kernel_rfl) ?_
    refine WL.load 3 (.pointer (some ⟨g3, 4, none⟩)) (.int .i64 now) 97 (by kernel_rfl) (run_ld (hC148.get 0 rfl) rfl) ?_
    refine WL.call rfl rfl rfl rfl rfl (by kernel_rfl) (Renew2_ct A c xs vip first dip now w145 (Rd.fr hr hC148.fr) hwf (by first | omega | simp)) ?_
    rintro _ w158 ⟨v_, rfl, hF157, ho156⟩
    have hC159 := hC148.callN hF157 (own_ge ho156) (own_lt ho156)
    obtain ⟨A160, c161, rfl, hle162⟩ := own_form ho156
    have ho164 := own_base (b' := 0) ho156 (fun _ _ => Nat.zero_le _)
    refine ⟨_, rfl, ?_⟩
    have ho165 := own_fr ho149 hF157 (by simp)
    have ho166 := own_fr ho150 hF157 (by simp)
    have ho167 := own_fr ho151 hF157 (by simp)
    have ho168 := own_fr ho152 hF157 (by simp)
    have ho169 := own_fr ho153 hF157 (by simp)
    refine WL.runs 4 [(101, .int .i64 (rnE xs vip first dip now)), (100, .agg #[.int .u32 ((rnL xs vip first dip now).vip), .int .i64 ((rnL xs vip first dip now).first), .int .u32 ((rnL xs vip first dip now).dip), .int .i64 ((rnL xs vip first dip now).exp)]), (99, .slice A160 ((rnX xs vip first dip now).length) c161), (87, .tuple #[.slice A160 ((rnX xs vip first dip now).length) c161, .agg #[.int .u32 ((rnL xs vip first dip now).vip), .int .i64 ((rnL xs vip first dip now).first), .int .u32 ((rnL xs vip first dip now).dip), .int .i64 ((rnL xs vip first dip now).exp)], .int .i64 (rnE xs vip first dip now)])] (fun _ => by kernel_rfl) ?_
    refine WL.newM hC159 (fun b => .pointer (some ⟨b, 0, none⟩)) (.cells #[.int .u32 0, .int .i64 0, .int .u32 0, .int .i64 0] 27) 14 (fun _ => by kernel_rfl) (fun g171 w172 hb175 hF173 hC174 => ?_)
    have ho176 := own_fr ho165 hF173 (by simp)
    have ho177 := own_fr ho166 hF173 (by simp)
    have ho178 := own_fr ho167 hF173 (by simp)
    have ho179 := own_fr ho168 hF173 (by simp)
    have ho180 := own_fr ho169 hF173 (by simp)
    have ho181 := own_fr ho164 hF173 (by simp)
    refine WL.runs 1 [(13, .slice A160 ((rnX xs vip first dip now).length) c161)] (fun _ => by kernel_rfl) ?_
    refine WL.storeM hC174 4 27 g171 0 (.agg #[.int .u32 ((rnL xs vip first dip now).vip), .int .i64 ((rnL xs vip first dip now).first), .int .u32 ((rnL xs vip first dip now).dip), .int .i64 ((rnL xs vip first dip now).exp)]) (by kernel_rfl) rfl rfl (fun w182 hF184 hC185 => ?_)
    have ho186 := own_fr ho176 hF184 (hC174.apartM 0 4 rfl rfl)
    have ho187 := own_fr ho177 hF184 (blk_al (n1 := (xs.length + 1)) (c1 := c25) (hC174.apartM 0 4 rfl rfl))
    have ho188 := own_fr ho178 hF184 (hC174.apartM 1 4 rfl rfl)
    have ho189 := own_fr ho179 hF184 (hC174.apartM 2 4 rfl rfl)
    have ho190 := own_fr ho180 hF184 (hC174.apartM 3 4 rfl rfl)
    have ho191 := own_fr ho181 hF184 (hC174.apartM 4 4 rfl rfl)
    refine WL.runs 1 [(15, .int .i64 (rnE xs vip first dip now))] (fun _ => by kernel_rfl) ?_
    refine WL.done rfl ?_
    refine QX.then_normal (hK155 _ _ ?_)
    refine WC.seq (fun K192 hK193 => ?_)
    refine WC.seq (fun K194 hK195 => ?_)
    refine WC.region ?_
    refine WL.runs 3 [(104, .int .i64 0), (103, .int .i64 ((grX xs vip dip now).length : Int)), (102, .slice A38 ((grX xs vip dip now).length) c39)] (fun _ => by kernel_rfl) ?_
    refine WL.done rfl ?_
    refine QX.then_normal (hK195 _ _ ?_)
    refine WC.block ?_
    refine WC.loop (fun m_ E_ w_ => ∃ (k : Nat) (Y : List Lease), m_ = (grX xs vip dip now).length - k ∧ E_ = [(1, .pointer (some ⟨g3, 0, none⟩)), (3, .slice A24 xs.length c25), (4, .slice A38 ((grX xs vip dip now).length) c39), (7, .slice A67 ((grX xs vip dip now).length) c68), (10, .slice A125 ((rnX xs vip first dip now).length) c126), (11, .pointer (some ⟨g135, 0, none⟩)), (12, errV 32 (rnE xs vip first dip now)), (13, .slice A160 ((rnX xs vip first dip now).length) c161), (14, .pointer (some ⟨g171, 0, none⟩)), (15, .int .i64 (rnE xs vip first dip now)), (103, .int .i64 ((grX xs vip dip now).length : Int)), (104, .int .i64 (k : Int))] ∧ Cx w [] w_ [(g3, .cells #[.slice A xs.length c, .int .u32 vip, .int .u32 dip, .int .i64 first, .int .i64 now] 37), (g46, .cells #[.int .u32 ((grL xs vip dip now).vip), .int .i64 ((grL xs vip dip now).first), .int .u32 ((grL xs vip dip now).dip), .int .i64 ((grL xs vip dip now).exp)] 27), (g76, .cells #[.int .u32 ((grL xs vip dip now).vip), .int .i64 ((grL xs vip dip now).first), .int .u32 ((grL xs vip dip now).dip), .int .i64 ((grL xs vip dip now).exp)] 27), (g135, .cells #[.int .u32 ((rnL xs vip first dip now).vip), .int .i64 ((rnL xs vip first dip now).first), .int .u32 ((rnL xs vip first dip now).dip), .int .i64 ((rnL xs vip first dip now).exp)] 27), (g171, .cells #[.int .u32 ((rnL xs vip first dip now).vip), .int .i64 ((rnL xs vip first dip now).first), .int .u32 ((rnL xs vip first dip now).dip), .int .i64 ((rnL xs vip first dip now).exp)] 27)] [blk (.slice A24 (xs.length + 1) c25), blk (.slice A38 ((grX xs vip dip now).length) c39), blk (.slice A67 ((grX xs vip dip now).length) c68), blk (.slice A125 ((rnX xs vip first dip now).length) c126), blk (.slice A160 ((rnX xs vip first dip now).length) c161)] ∧ World.ownsRow w_ 0 27 4 (.slice A24 (xs.length + 1) c25) (xs.length + 1) ((xs ++ [(⟨0, -77, 0, 0⟩ : Lease)]).flatMap encL) ∧ World.ownsRow w_ 0 27 4 (.slice A24 xs.length c25) xs.length (xs.flatMap encL) ∧ World.ownsRow w_ 0 27 4 (.slice A67 ((grX xs vip dip now).length) c68) ((grX xs vip dip now).length) ((grX xs vip dip now).flatMap encL) ∧ World.ownsRow w_ 0 27 4 (.slice A125 ((rnX xs vip first dip now).length) c126) ((rnX xs vip first dip now).length) ((rnX xs vip first dip now).flatMap encL) ∧ World.ownsRow w_ 0 27 4 (.slice A160 ((rnX xs vip first dip now).length) c161) ((rnX xs vip first dip now).length) ((rnX xs vip first dip now).flatMap encL) ∧ World.ownsRow w_ 0 27 4 (.slice A38 ((grX xs vip dip now).length) c39) ((grX xs vip dip now).length) (Y.flatMap encL) ∧ (k ≤ (grX xs vip dip now).length)) ⟨_, _, ⟨0, (grX xs vip dip now), rfl, rfl, hC185, ho186, ho187, ho189, ho190, ho191, ho188, Nat.zero_le _⟩, sub_of ⟨rfl, rfl, rfl, rfl, rfl, rfl, rfl, rfl, rfl, rfl, rfl, rfl, trivial⟩⟩ (fun m199 E_ w200 K196 hK197 hI198 => ?_)
    obtain ⟨k, Y, rfl, rfl, hC201, mark_m199, mine_m199, row75_m199, row134_m199, row170_m199, hrY, hk⟩ := hI198
    refine WC.seq (fun K202 hK203 => ?_)
    refine WC.region ?_
    refine WL.runs 1 [(105, .bool (decide ((k : Int) < ((grX xs vip dip now).length : Int))))] (fun _ => by kernel_rfl) ?_
    refine WL.done rfl ?_
    refine QX.then_normal (hK203 _ _ ?_)
    refine WC.seq (fun K204 hK205 => ?_)
    refine WC.test_at 105 (decide ((k : Int) < ((grX xs vip dip now).length : Int))) rfl (fun t206b => ?_) (fun t206b => ?_)
    · -- (k : Int) < ((grX xs vip dip now).length : Int): true
      have t206 : (k : Int) < ((grX xs vip dip now).length : Int) := by have q_ := of_decide_eq_true t206b; omega
      refine WC.cond_true rfl ?_
      refine WC.skip ?_
      refine QX.then_normal (hK205 _ _ ?_)
      refine WC.seq (fun K207 hK208 => ?_)
      refine WC.block ?_
      refine WC.seq (fun K209 hK210 => ?_)
      refine WC.region ?_
      refine WL.runs 2 [(16, .int .i64 (k : Int)), (106, .int .i64 (k : Int))] (fun _ => by kernel_rfl) ?_
      refine WL.done rfl ?_
      refine QX.then_normal (hK210 _ _ ?_)
      refine WC.region ?_
      refine WL.runs 3 [(109, .agg #[.int .u32 0, .int .i64 0, .int .u32 0, .int .i64 0]), (108, .int .i64 (k : Int)), (107, .slice A38 ((grX xs vip dip now).length) c39)] (fun _ => by kernel_rfl) ?_
      have hn215 := own_count encL_len (by decide) hrY
      obtain ⟨e211, he212⟩ := get_some (xs := Y) (i := k) (by omega)
      obtain ⟨b213, hA214⟩ := own_addr (by decide) encL_len hrY he212
      refine WL.index A38 ((grX xs vip dip now).length) c39 110 .i64 (k : Int) b213 0 k 4 (by kernel_rfl) hA214 (by omega) (by omega) (k * 4) (by first | (simp; done) | omega) ?_
      obtain ⟨w216, hr217, hF218, ho220, hC219⟩ := stoE_run Tryd.prog encL_len hC201 1 hA214 rfl hrY k 0 (x := e211) he212 (⟨0, 0, 0, 0⟩ : Lease) [.int .u32 0, .int .i64 0, .int .u32 0, .int .i64 0] rfl 27 (.agg #[.int .u32 0, .int .i64 0, .int .u32 0, .int .i64 0]) (k * 4) rfl rfl rfl (by simp [Nat.add_assoc])
      refine WL.semU (Instr.storeAt 27 (.pointer (some ⟨b213, k * 4, none⟩)) (.agg #[.int .u32 0, .int .i64 0, .int .u32 0, .int .i64 0])) (by kernel_rfl) hr217 ?_
      have ho221 := own_fr mark_m199 hF218 (hC201.disj 0 1 rfl rfl (by decide))
      have ho222 := own_fr mine_m199 hF218 (blk_al (n1 := (xs.length + 1)) (c1 := c25) (hC201.disj 0 1 rfl rfl (by decide)))
      have ho223 := own_fr row75_m199 hF218 (hC201.disj 2 1 rfl rfl (by decide))
      have ho224 := own_fr row134_m199 hF218 (hC201.disj 3 1 rfl rfl (by decide))
      have ho225 := own_fr row170_m199 hF218 (hC201.disj 4 1 rfl rfl (by decide))
      refine WL.done rfl ?_
      refine QX.block_normal ?_
      refine QX.then_normal (hK208 _ _ ?_)
      refine WC.region ?_
      refine WL.runs 1 [(111, .int .i64 (IntKind.i64.wrap ((k : Int) + 1)))] (fun _ => by kernel_rfl) ?_
      refine WL.recast (show (.int .i64 (IntKind.i64.wrap ((k : Int) + 1)) : Value) = .int .i64 ((k : Int) + 1) from by rw [wrap_in_i64 ((k : Int) + 1) (by omega) (by omega)]) ?_
      refine WL.runs 1 [(104, .int .i64 ((k : Int) + 1))] (fun _ => by kernel_rfl) ?_
      refine WL.done rfl ?_
      refine QX.then_normal ?_
      have hC226 := hC219.pick [0, 1, 2, 3, 4] [0, 1, 2, 3, 4] rfl rfl
      refine fun a_ ha_ => hK197 _ _ _ ?_ ⟨k + 1, Y.set k (⟨0, 0, 0, 0⟩ : Lease), rfl, rfl, hC226, ho221, ho222, ho223, ho224, ho225, ho220, by omega⟩ a_ (ha_.weaken (sub_of ⟨rfl, rfl, rfl, rfl, rfl, rfl, rfl, rfl, rfl, rfl, rfl, rfl, trivial⟩))
      omega
    · -- (k : Int) < ((grX xs vip dip now).length : Int): false
      have t206 : ((grX xs vip dip now).length : Int) ≤ (k : Int) := by have q_ := of_decide_eq_false t206b; omega
      refine WC.cond_false rfl ?_
      refine WC.exit ?_
      refine QX.then_exit ?_
      refine QX.then_exit ?_
      refine QX.block_hit ?_
      refine QX.then_normal (hK193 _ _ ?_)
      refine WC.seq (fun K227 hK228 => ?_)
      refine WC.drawC hC201 [] (by kernel_rfl) (fun w229 hF230 hC231 hS232 => ?_)
      have ho233 := own_fr mark_m199 hF230 (by simp)
      have ho234 := own_fr mine_m199 hF230 (by simp)
      have ho235 := own_fr row75_m199 hF230 (by simp)
      have ho236 := own_fr row134_m199 hF230 (by simp)
      have ho237 := own_fr row170_m199 hF230 (by simp)
      have ho238 := own_fr hrY hF230 (by simp)
      refine WD.pure (NoPanic.then hN) 0 112 (.slice A125 ((rnX xs vip first dip now).length) c126) (by kernel_rfl) (fun _ => by kernel_rfl) hS232 ?_
      refine WD.pure (NoPanic.then hN) 1 113 (.slice A160 ((rnX xs vip first dip now).length) c161) (by kernel_rfl) (fun _ => by kernel_rfl) hS232 ?_
      refine WD.call 2 (by kernel_rfl) rfl rfl rfl rfl rfl (by kernel_rfl) (Same2_ct A125 c126 (rnX xs vip first dip now) A160 c161 (rnX xs vip first dip now) w229 (own_rd ho236 encL_len (by decide)) (own_rd ho237 encL_len (by decide)) (by first | omega | (simp; omega))) ?_
      rintro _ w240 ⟨rfl, hF239⟩
      have hS242 := hS232.trans hF239 (by simp)
      refine ⟨_, rfl, hS242, ?_⟩
      have hC241 := hC231.call hF239
      have ho243 := own_fr ho233 hF239 (by simp)
      have ho244 := own_fr ho234 hF239 (by simp)
      have ho245 := own_fr ho235 hF239 (by simp)
      have ho246 := own_fr ho236 hF239 (by simp)
      have ho247 := own_fr ho237 hF239 (by simp)
      have ho248 := own_fr ho238 hF239 (by simp)
      refine WD.pure (NoPanic.then hN) 3 115 (.bool (decide ((rnX xs vip first dip now) = (rnX xs vip first dip now)))) (by kernel_rfl) (fun _ => by kernel_rfl) hS242 ?_
      refine WD.know 115 (.bool (decide ((rnX xs vip first dip now) = (rnX xs vip first dip now)))) (.bool true) rfl (congrArg Value.bool (by simp)) ?_
      refine WD.load (NoPanic.then hN) 4 27 (.pointer (some ⟨g135, 0, none⟩)) (.agg #[.int .u32 ((rnL xs vip first dip now).vip), .int .i64 ((rnL xs vip first dip now).first), .int .u32 ((rnL xs vip first dip now).dip), .int .i64 ((rnL xs vip first dip now).exp)]) 116 (by kernel_rfl) (by kernel_rfl) (fun _ hS_ => run_ld (Fr.has hS_ (hC231.get 3 rfl) (by simp)) rfl) hS242 ?_
      refine WD.load (NoPanic.then hN) 5 27 (.pointer (some ⟨g171, 0, none⟩)) (.agg #[.int .u32 ((rnL xs vip first dip now).vip), .int .i64 ((rnL xs vip first dip now).first), .int .u32 ((rnL xs vip first dip now).dip), .int .i64 ((rnL xs vip first dip now).exp)]) 117 (by kernel_rfl) (by kernel_rfl) (fun _ hS_ => run_ld (Fr.has hS_ (hC231.get 4 rfl) (by simp)) rfl) hS242 ?_
      have hr249 : ∀ w_, Sem.run Tryd.prog (do eqGuard .eql 27 (Operand.tmp 116) (Operand.tmp 117) (.agg #[.int .u32 ((rnL xs vip first dip now).vip), .int .i64 ((rnL xs vip first dip now).first), .int .u32 ((rnL xs vip first dip now).dip), .int .i64 ((rnL xs vip first dip now).exp)]) (.agg #[.int .u32 ((rnL xs vip first dip now).vip), .int .i64 ((rnL xs vip first dip now).first), .int .u32 ((rnL xs vip first dip now).dip), .int .i64 ((rnL xs vip first dip now).exp)]); binOp .eql 27 (.agg #[.int .u32 ((rnL xs vip first dip now).vip), .int .i64 ((rnL xs vip first dip now).first), .int .u32 ((rnL xs vip first dip now).dip), .int .i64 ((rnL xs vip first dip now).exp)]) (.agg #[.int .u32 ((rnL xs vip first dip now).vip), .int .i64 ((rnL xs vip first dip now).first), .int .u32 ((rnL xs vip first dip now).dip), .int .i64 ((rnL xs vip first dip now).exp)])) w_ = .ok (.bool (((rnL xs vip first dip now).vip) == ((rnL xs vip first dip now).vip) && (((rnL xs vip first dip now).first) == ((rnL xs vip first dip now).first) && (((rnL xs vip first dip now).dip) == ((rnL xs vip first dip now).dip) && (((rnL xs vip first dip now).exp) == ((rnL xs vip first dip now).exp) && true))))) w_ := fun w_ => (run_eql_S (by kernel_rfl))
      refine WD.semP (NoPanic.then hN) 6 (do eqGuard .eql 27 (Operand.tmp 116) (Operand.tmp 117) (.agg #[.int .u32 ((rnL xs vip first dip now).vip), .int .i64 ((rnL xs vip first dip now).first), .int .u32 ((rnL xs vip first dip now).dip), .int .i64 ((rnL xs vip first dip now).exp)]) (.agg #[.int .u32 ((rnL xs vip first dip now).vip), .int .i64 ((rnL xs vip first dip now).first), .int .u32 ((rnL xs vip first dip now).dip), .int .i64 ((rnL xs vip first dip now).exp)]); binOp .eql 27 (.agg #[.int .u32 ((rnL xs vip first dip now).vip), .int .i64 ((rnL xs vip first dip now).first), .int .u32 ((rnL xs vip first dip now).dip), .int .i64 ((rnL xs vip first dip now).exp)]) (.agg #[.int .u32 ((rnL xs vip first dip now).vip), .int .i64 ((rnL xs vip first dip now).first), .int .u32 ((rnL xs vip first dip now).dip), .int .i64 ((rnL xs vip first dip now).exp)])) 118 (.bool (((rnL xs vip first dip now).vip) == ((rnL xs vip first dip now).vip) && (((rnL xs vip first dip now).first) == ((rnL xs vip first dip now).first) && (((rnL xs vip first dip now).dip) == ((rnL xs vip first dip now).dip) && (((rnL xs vip first dip now).exp) == ((rnL xs vip first dip now).exp) && true))))) (by kernel_rfl) (by kernel_rfl) (fun _ _ => hr249 _) hS242 ?_
      refine WD.pure (NoPanic.then hN) 7 119 (.bool (((rnL xs vip first dip now).vip) == ((rnL xs vip first dip now).vip) && (((rnL xs vip first dip now).first) == ((rnL xs vip first dip now).first) && (((rnL xs vip first dip now).dip) == ((rnL xs vip first dip now).dip) && (((rnL xs vip first dip now).exp) == ((rnL xs vip first dip now).exp) && true))))) (by kernel_rfl) (fun _ => by kernel_rfl) hS242 ?_
      refine WD.pure (NoPanic.then hN) 8 120 (.bool (((rnL xs vip first dip now).vip) == ((rnL xs vip first dip now).vip) && (((rnL xs vip first dip now).first) == ((rnL xs vip first dip now).first) && (((rnL xs vip first dip now).dip) == ((rnL xs vip first dip now).dip) && (((rnL xs vip first dip now).exp) == ((rnL xs vip first dip now).exp) && true))))) (by kernel_rfl) (fun _ => by kernel_rfl) hS242 ?_
      refine WD.know 120 (.bool (((rnL xs vip first dip now).vip) == ((rnL xs vip first dip now).vip) && (((rnL xs vip first dip now).first) == ((rnL xs vip first dip now).first) && (((rnL xs vip first dip now).dip) == ((rnL xs vip first dip now).dip) && (((rnL xs vip first dip now).exp) == ((rnL xs vip first dip now).exp) && true))))) (.bool true) rfl (congrArg Value.bool (by simp)) ?_
      refine WD.pure (NoPanic.then hN) 9 121 (errV 32 (rnE xs vip first dip now)) (by kernel_rfl) (fun _ => by kernel_rfl) hS242 ?_
      refine WD.pure (NoPanic.then hN) 11 123 (.int .i64 (rnE xs vip first dip now)) (by kernel_rfl) (fun _ => by kernel_rfl) hS242 ?_
      refine WD.call 10 (by kernel_rfl) rfl rfl rfl rfl rfl (by kernel_rfl) (Num_ct (rnE xs vip first dip now) w240) ?_
      rintro _ w251 ⟨rfl, hF250⟩
      have hS253 := hS242.trans hF250 (by simp)
      refine ⟨_, rfl, hS253, ?_⟩
      have hC252 := hC241.call hF250
      have ho254 := own_fr ho243 hF250 (by simp)
      have ho255 := own_fr ho244 hF250 (by simp)
      have ho256 := own_fr ho245 hF250 (by simp)
      have ho257 := own_fr ho246 hF250 (by simp)
      have ho258 := own_fr ho247 hF250 (by simp)
      have ho259 := own_fr ho248 hF250 (by simp)
      refine WD.pure (NoPanic.then hN) 12 124 (.bool ((rnE xs vip first dip now) == (rnE xs vip first dip now))) (by kernel_rfl) (fun _ => by kernel_rfl) hS253 ?_
      refine WD.pure (NoPanic.then hN) 13 125 (.bool ((rnE xs vip first dip now) == (rnE xs vip first dip now))) (by kernel_rfl) (fun _ => by kernel_rfl) hS253 ?_
      refine WD.pure (NoPanic.then hN) 14 126 (.bool ((rnE xs vip first dip now) == (rnE xs vip first dip now))) (by kernel_rfl) (fun _ => by kernel_rfl) hS253 ?_
      refine WD.know 126 (.bool ((rnE xs vip first dip now) == (rnE xs vip first dip now))) (.bool true) rfl (congrArg Value.bool (by simp)) ?_
      refine WD.pure (NoPanic.then hN) 15 127 (.slice A24 xs.length c25) (by kernel_rfl) (fun _ => by kernel_rfl) hS253 ?_
      refine WD.pure (NoPanic.then hN) 16 128 (.pointer (some ⟨g3, 0, none⟩)) (by kernel_rfl) (fun _ => by kernel_rfl) hS253 ?_
      refine WD.load (NoPanic.then hN) 17 25 (.pointer (some ⟨g3, 0, none⟩)) (.slice A xs.length c) 129 (by kernel_rfl) (by kernel_rfl) (fun _ hS_ => run_ld (Fr.has hS_ (hC231.get 0 rfl) (by simp)) rfl) hS253 ?_
      refine WD.call 18 (by kernel_rfl) rfl rfl rfl rfl rfl (by kernel_rfl) (kept_ct A24 c25 xs A c w251 (own_rd ho254 encL_len (by decide)) (Rd.fr hr hC252.fr) (own_le ho254) (by omega)) ?_
      rintro _ w261 ⟨rfl, hF260⟩
      have hS263 := hS253.trans hF260 (by simp)
      refine ⟨_, rfl, hS263, ?_⟩
      have hC262 := hC252.call hF260
      have ho264 := own_fr ho254 hF260 (by simp)
      have ho265 := own_fr ho255 hF260 (by simp)
      have ho266 := own_fr ho256 hF260 (by simp)
      have ho267 := own_fr ho257 hF260 (by simp)
      have ho268 := own_fr ho258 hF260 (by simp)
      have ho269 := own_fr ho259 hF260 (by simp)
      refine WD.pure (NoPanic.then hN) 19 131 (.bool true) (by kernel_rfl) (fun _ => by kernel_rfl) hS263 ?_
      refine WD.pure (NoPanic.then hN) 20 132 (.bool true) (by kernel_rfl) (fun _ => by kernel_rfl) hS263 ?_
      refine WD.pure (NoPanic.then hN) 21 133 (.slice A24 xs.length c25) (by kernel_rfl) (fun _ => by kernel_rfl) hS263 ?_
      refine WD.pure (NoPanic.then hN) 24 136 (.pointer (some ⟨g3, 0, none⟩)) (by kernel_rfl) (fun _ => by kernel_rfl) hS263 ?_
      refine WD.load (NoPanic.then hN) 25 25 (.pointer (some ⟨g3, 0, none⟩)) (.slice A xs.length c) 137 (by kernel_rfl) (by kernel_rfl) (fun _ hS_ => run_ld (Fr.has hS_ (hC231.get 0 rfl) (by simp)) rfl) hS263 ?_
      refine WD.call 22 (by kernel_rfl) rfl rfl rfl rfl rfl (by kernel_rfl) (Check_ct A24 c25 xs w261 (own_rd ho265 encL_len (by decide)) hwf (by omega)) ?_
      rintro _ w271 ⟨rfl, hF270⟩
      have hS273 := hS263.trans hF270 (by simp)
      refine ⟨_, rfl, hS273, ?_⟩
      have hC272 := hC262.call hF270
      have ho274 := own_fr ho264 hF270 (by simp)
      have ho275 := own_fr ho265 hF270 (by simp)
      have ho276 := own_fr ho266 hF270 (by simp)
      have ho277 := own_fr ho267 hF270 (by simp)
      have ho278 := own_fr ho268 hF270 (by simp)
      have ho279 := own_fr ho269 hF270 (by simp)
      have hr280 : ∀ w_, Sem.run Tryd.prog (do eqGuard .eql 29 (Operand.tmp 134) (Operand.const (.nilIface)) (errV 32 (if checkL xs then 0 else 9)) (.nilIface); binOp .eql 29 (errV 32 (if checkL xs then 0 else 9)) (.nilIface)) w_ = .ok (.bool (checkL xs)) w_ := fun w_ => (err_eql _ (if checkL xs then 0 else 9) (checkL xs) (by cases checkL xs <;> rfl) _)
      refine WD.semP (NoPanic.then hN) 23 (do eqGuard .eql 29 (Operand.tmp 134) (Operand.const (.nilIface)) (errV 32 (if checkL xs then 0 else 9)) (.nilIface); binOp .eql 29 (errV 32 (if checkL xs then 0 else 9)) (.nilIface)) 135 (.bool (checkL xs)) (by kernel_rfl) (by kernel_rfl) (fun _ _ => hr280 _) hS273 ?_
      refine WD.call 26 (by kernel_rfl) rfl rfl rfl rfl rfl (by kernel_rfl) (Good2_ct A c xs w271 (Rd.fr hr hC272.fr) hwf (by omega)) ?_
      rintro _ w282 ⟨rfl, hF281⟩
      have hS284 := hS273.trans hF281 (by simp)
      refine ⟨_, rfl, hS284, ?_⟩
      have hC283 := hC272.call hF281
      have ho285 := own_fr ho274 hF281 (by simp)
      have ho286 := own_fr ho275 hF281 (by simp)
      have ho287 := own_fr ho276 hF281 (by simp)
      have ho288 := own_fr ho277 hF281 (by simp)
      have ho289 := own_fr ho278 hF281 (by simp)
      have ho290 := own_fr ho279 hF281 (by simp)
      refine WD.pure (NoPanic.then hN) 27 139 (.bool ((checkL xs) == (checkL xs))) (by kernel_rfl) (fun _ => by kernel_rfl) hS284 ?_
      refine WD.pure (NoPanic.then hN) 28 140 (.bool ((checkL xs) == (checkL xs))) (by kernel_rfl) (fun _ => by kernel_rfl) hS284 ?_
      refine WD.pure (NoPanic.then hN) 29 2 (.bool ((checkL xs) == (checkL xs))) (by kernel_rfl) (fun _ => by kernel_rfl) hS284 ?_
      refine WD.done (by kernel_rfl) ?_
      refine QX.then_normal (hK228 _ _ ?_)
      refine WC.ret ?_
      refine (hret _ _ _ rfl ?_).1
      clear hN hret hret' hK228 hK205 hK203 hK195 hK193 hK155 hK120 hK96 hK94 hK62 hK33 hK23 hK18 hK16 hK11 hK9 hK2
      exact ⟨congrArg (fun b_ => Ending.returned (Value.bool b_)) (show ((checkL xs) == (checkL xs)) = true from by simp), hC283.fr⟩

end Go.Proofs.YtoambminolcgfaaDoor
