/- Contracts of functions of the program, each proved by a walk through its code; conditions stand in the statements. -/
import Derived.Test.YtjacpjdikhlcoaaVtU14
namespace Go.Proofs.Ytjacpjdikhlcoaa
set_option linter.unusedSimpArgs false
set_option linter.unusedVariables false
set_option linter.unusedSectionVars false
open Go Go.RowKit Go.Tw
set_option linter.unusedVariables false
set_option maxRecDepth 20000
theorem CopyB_ct (A : Option Addr) (c : Nat) (xs : List Int) (w : World) (hrd : Rd w 1 (Go.Tw.encI .u8) A xs) (hlx : xs.length ≤ 1099511627776) : Calls Try.prog 11 #[.slice A xs.length c] w fun e w' => ∃ (A2 : Option Addr) (c2 : Nat), e = .returned (.slice A2 xs.length c2) ∧ Fr w w' [] ∧ w'.ownsRow w.heap.size 5 1 (.slice A2 (xs.length + 2) c2) (xs.length + 2) ((xs ++ [165, 90]).flatMap (Go.Tw.encI .u8)) := by
  refine enterD (n := 14) Try.func11 rfl rfl (Nat.le_of_ble_eq_true rfl) ?_
  intro Q0 hN hret hret'
  have hC := Cx.start w
  refine WC.seq (fun K1 hK2 => ?_)
  refine WC.region ?_
  refine WL.runs 1 [(2, .slice none 0 0)] (fun _ => by kernel_rfl) ?_
  refine WL.done rfl ?_
  refine QX.then_normal (hK2 _ _ ?_)
  refine WC.seq (fun K3 hK4 => ?_)
  refine WC.region ?_
  refine WL.runs 3 [(5, .int .i64 (IntKind.i64.wrap ((xs.length : Int) + 2))), (4, .int .i64 (xs.length : Int)), (3, .slice A xs.length c)] (fun _ => by kernel_rfl) ?_
  refine WL.recast (show (.int .i64 (IntKind.i64.wrap ((xs.length : Int) + 2)) : Value) = .int .i64 ((xs.length : Int) + 2) from by rw [wrap_in_i64 ((xs.length : Int) + 2) (by omega) (by omega)]) ?_
  obtain ⟨g5, w6, hr7, ho8, hF9, hC10, hge11⟩ := make0_run Try.prog hC 22 5 1 1 (xs.length + 2) .i64 .i64 ((xs.length : Int) + 2) rfl (by omega) (by omega) (by simp only [maxLen]; omega)
  refine WL.sem (Instr.makeSlice 22 (.int .i64 0) (.int .i64 ((xs.length : Int) + 2))) 6 (.slice (some ⟨g5, 0, none⟩) 0 (xs.length + 2)) (by kernel_rfl) hr7 ?_
  refine WL.runs 1 [(7, .slice A xs.length c)] (fun _ => by kernel_rfl) ?_
  obtain ⟨v13, w14, hr15, ho16, hF17, hC18, hnil19, hsub20⟩ := app_run Try.prog hC10 0 (v := .slice (some ⟨g5, 0, none⟩) 0 (xs.length + 2)) rfl 22 22 5 1 1 0 xs.length c A rfl ho8 (xs.flatMap (Go.Tw.encI .u8)) (flat_len_n (Go.Tw.encI_len _) (by first | rfl | assumption | (simp; done) | (simp; omega))) (Rd.src_n (Rd.fr hrd hC10.fr) (Go.Tw.encI_len _) (by decide) (by first | rfl | assumption | (simp; done) | (simp; omega))) (flat_one (Go.Tw.encI_one _) _) (by simp only [maxLen]; omega) (by omega)
  have ho24 := own_app (enc := (Go.Tw.encI .u8)) (ys := []) (zs := xs) ho16
  obtain ⟨A21, c22, rfl, hle23⟩ := own_form ho24
  refine WL.sem (Builtin.append_ #[22, 22] 22 #[.slice (some ⟨g5, 0, none⟩) 0 (xs.length + 2), .slice A xs.length c]) 8 (.slice A21 (0 + xs.length) c22) (by kernel_rfl) hr15 ?_
  refine WL.newM hC18 (fun b => .slice (some ⟨b, 0, none⟩) 2 2) (.cells #[.int .u8 165, .int .u8 90] 5) 9 (fun _ => by kernel_rfl) (fun g25 w26 hb29 hF27 hC28 => ?_)
  have ho30 := own_fr ho24 hF27 (by simp)
  obtain ⟨v31, w32, hr33, ho34, hF35, hC36, hnil37, hsub38⟩ := app_run Try.prog hC28 0 (v := .slice A21 (0 + xs.length) c22) rfl 22 22 5 1 1 (0 + xs.length) 2 2 (some ⟨g25, 0, none⟩) rfl ho30 [.int .u8 165, .int .u8 90] rfl (srcOk.blk 2 (hC28.get 0 rfl)) rfl (by simp only [maxLen]; omega) (by omega)
  have ho42 := own_app (enc := (Go.Tw.encI .u8)) (ys := [] ++ xs) (zs := [165, 90]) ho34
  obtain ⟨A39, c40, rfl, hle41⟩ := own_form ho42
  refine WL.sem (Builtin.append_ #[22, 22] 22 #[.slice A21 (0 + xs.length) c22, .slice (some ⟨g25, 0, none⟩) 2 2]) 10 (.slice A39 (0 + xs.length + 2) c40) (by kernel_rfl) hr33 ?_
  refine WL.runs 2 [(12, .int .i64 (xs.length : Int)), (11, .slice A xs.length c)] (fun _ => by kernel_rfl) ?_
  have hle_ := own_le ho42
  have hb43 : xs.length ≤ c40 := by omega
  refine WL.slc 22 5 1 A39 A39 (0 + xs.length + 2) c40 0 xs.length xs.length c40 none (some (.int .i64 (xs.length : Int))) 13 (by kernel_rfl) (by kernel_rfl) bnd.no (bnd.yes (by omega)) (by omega) hb43 (slcAt_pre _ _ _) (by first | rfl | omega) (by first | rfl | omega) ?_
  have ho44 := own_takeE (m := xs.length) (Go.Tw.encI_len _) ho42 (by omega)
  refine WL.runs 1 [(2, .slice A39 xs.length c40)] (fun _ => by kernel_rfl) ?_
  refine WL.done rfl ?_
  refine QX.then_normal (hK4 _ _ ?_)
  refine WC.ret ?_
  refine (hret _ _ _ rfl ?_).1
  clear hN hret hret' hK4 hK2
  have hown_ := ho42
  rw [show (0 + xs.length + 2 : Nat) = xs.length + 2 from by omega, show ([] : List Int) ++ xs ++ [165, 90] = xs ++ [165, 90] from by rw [List.nil_append]] at hown_
  exact ⟨_, _, rfl, hC36.fr, own_base hown_ (by have z_ := newF_of hC36 0 rfl (by simp) (by simp); intro x_ hx_; exact z_ x_ (blk_in2 hx_))⟩

theorem KeptB_ct (A B : Option Addr) (c c2 : Nat) (xs : List Int) (w : World) (hA1 : Rd w 1 (Go.Tw.encI .u8) A xs) (hA : Rd w 1 (Go.Tw.encI .u8) A (xs ++ [165, 90])) (hB : Rd w 1 (Go.Tw.encI .u8) B xs) (hc : xs.length + 2 ≤ c) (hlx : xs.length ≤ 1099511627776) : Calls Try.prog 16 #[.slice A xs.length c, .slice B xs.length c2] w fun e w' => e = .returned (.bool true) ∧ Fr w w' [] := by
  refine enterD (n := 39) Try.func16 rfl rfl (Nat.le_of_ble_eq_true rfl) ?_
  intro Q0 hN hret hret'
  have hxl_ : (xs ++ [165, 90]).length = xs.length + 2 := by simp
  have hC := Cx.start w
  refine WC.seq (fun K1 hK2 => ?_)
  refine WC.region ?_
  refine WL.runs 1 [(4, .bool false)] (fun _ => by kernel_rfl) ?_
  refine WL.done rfl ?_
  refine QX.then_normal (hK2 _ _ ?_)
  refine WC.seq (fun K3 hK4 => ?_)
  refine WC.seq (fun K5 hK6 => ?_)
  refine WC.region ?_
  refine WL.runs 1 [(6, .slice A xs.length c)] (fun _ => by kernel_rfl) ?_
  refine WL.sem (convert 22 9 (.slice A xs.length c)) 7 (.string (strOfNums xs)) (by kernel_rfl) (run_bytes_str rfl rfl rfl (Rd.fr hA1 hC.fr) rfl) ?_
  refine WL.runs 1 [(8, .slice B xs.length c2)] (fun _ => by kernel_rfl) ?_
  refine WL.sem (convert 22 9 (.slice B xs.length c2)) 9 (.string (strOfNums xs)) (by kernel_rfl) (run_bytes_str rfl rfl rfl (Rd.fr hB hC.fr) rfl) ?_
  refine WL.runs 1 [(10, .bool (!((strOfNums xs).toList == (strOfNums xs).toList)))] (fun _ => by kernel_rfl) ?_
  refine WL.recast (show (.bool (!((strOfNums xs).toList == (strOfNums xs).toList)) : Value) = .bool (!decide ((strOfNums xs) = (strOfNums xs))) from by rw [str_eql]) ?_
  refine WL.runs 1 [(11, .bool (!decide ((strOfNums xs) = (strOfNums xs))))] (fun _ => by kernel_rfl) ?_
  refine WL.know 11 (.bool (!decide ((strOfNums xs) = (strOfNums xs)))) (.bool false) rfl (congrArg Value.bool (by simp)) ?_
  refine WL.runs 5 [(16, .int .i64 (IntKind.i64.wrap ((xs.length : Int) + 2))), (15, .int .i64 (xs.length : Int)), (14, .slice B xs.length c2), (13, .int .i64 (c : Int)), (12, .slice A xs.length c)] (fun _ => by kernel_rfl) ?_
  refine WL.recast (show (.int .i64 (IntKind.i64.wrap ((xs.length : Int) + 2)) : Value) = .int .i64 ((xs.length : Int) + 2) from by rw [wrap_in_i64 ((xs.length : Int) + 2) (by omega) (by omega)]) ?_
  refine WL.runs 2 [(18, .bool (decide ((c : Int) < ((xs.length : Int) + 2)))), (17, .bool (decide ((c : Int) < ((xs.length : Int) + 2))))] (fun _ => by kernel_rfl) ?_
  refine WL.done rfl ?_
  refine QX.then_normal (hK6 _ _ ?_)
  refine WC.know 18 (.bool (decide ((c : Int) < ((xs.length : Int) + 2)))) (.bool false) rfl (congrArg Value.bool (by exact decide_eq_false (by omega))) ?_
  refine WC.cond_false rfl ?_
  refine WC.skip ?_
  refine QX.then_normal (hK4 _ _ ?_)
  refine WC.seq (fun K7 hK8 => ?_)
  refine WC.region ?_
  refine WL.runs 4 [(22, .int .i64 (IntKind.i64.wrap ((xs.length : Int) + 2))), (21, .int .i64 (xs.length : Int)), (20, .slice B xs.length c2), (19, .slice A xs.length c)] (fun _ => by kernel_rfl) ?_
  refine WL.recast (show (.int .i64 (IntKind.i64.wrap ((xs.length : Int) + 2)) : Value) = .int .i64 ((xs.length : Int) + 2) from by rw [wrap_in_i64 ((xs.length : Int) + 2) (by omega) (by omega)]) ?_
  have hb9 : xs.length + 2 ≤ c := by omega
  refine WL.slc 22 5 1 A A xs.length c 0 (xs.length + 2) (xs.length + 2) c none (some (.int .i64 ((xs.length : Int) + 2))) 23 (by kernel_rfl) (by kernel_rfl) bnd.no (bnd.yes (by omega)) (by omega) hb9 (slcAt_pre _ _ _) (by first | rfl | omega) (by first | rfl | omega) ?_
  refine WL.runs 1 [(5, .slice A (xs.length + 2) c)] (fun _ => by kernel_rfl) ?_
  refine WL.done rfl ?_
  refine QX.then_normal (hK8 _ _ ?_)
  refine WC.seq (fun K10 hK11 => ?_)
  refine WC.region ?_
  refine WL.runs 3 [(26, .int .i64 (xs.length : Int)), (25, .slice B xs.length c2), (24, .slice A (xs.length + 2) c)] (fun _ => by kernel_rfl) ?_
  obtain ⟨e12, he13⟩ := get_some (xs := (xs ++ [165, 90])) (i := xs.length) (by omega)
  obtain ⟨b14, o16, hA15, hc17⟩ := hA.at_ _ _ he13
  refine WL.index A (xs.length + 2) c 27 .i64 (xs.length : Int) b14 o16 xs.length 1 (by kernel_rfl) hA15 (by omega) (by omega) (o16 + xs.length) (by first | (simp; done) | omega) ?_
  refine WL.load 5 (.pointer (some ⟨b14, o16 + xs.length, none⟩)) (.int .u8 e12) 28 (by kernel_rfl) (run_load1 rfl (by simpa [Nat.add_assoc] using hC.fr.cell (hc17 0 _ rfl) (by simp))) ?_
  refine WL.runs 2 [(30, .bool (e12 == 165)), (29, .bool (e12 == 165))] (fun _ => by kernel_rfl) ?_
  refine WL.know 30 (.bool (e12 == 165)) (.bool true) rfl (congrArg Value.bool (by have z_ := he13; simp at z_; simp [← z_])) ?_
  refine WL.runs 4 [(34, .int .i64 (IntKind.i64.wrap ((xs.length : Int) + 1))), (33, .int .i64 (xs.length : Int)), (32, .slice B xs.length c2), (31, .slice A (xs.length + 2) c)] (fun _ => by kernel_rfl) ?_
  refine WL.recast (show (.int .i64 (IntKind.i64.wrap ((xs.length : Int) + 1)) : Value) = .int .i64 ((xs.length : Int) + 1) from by rw [wrap_in_i64 ((xs.length : Int) + 1) (by omega) (by omega)]) ?_
  obtain ⟨e18, he19⟩ := get_some (xs := (xs ++ [165, 90])) (i := xs.length + 1) (by omega)
  obtain ⟨b20, o22, hA21, hc23⟩ := hA.at_ _ _ he19
  refine WL.index A (xs.length + 2) c 35 .i64 ((xs.length : Int) + 1) b20 o22 (xs.length + 1) 1 (by kernel_rfl) hA21 (by omega) (by omega) (o22 + (xs.length + 1)) (by first | (simp; done) | omega) ?_
  refine WL.load 5 (.pointer (some ⟨b20, o22 + (xs.length + 1), none⟩)) (.int .u8 e18) 36 (by kernel_rfl) (run_load1 rfl (by simpa [Nat.add_assoc] using hC.fr.cell (hc23 0 _ rfl) (by simp))) ?_
  refine WL.runs 3 [(4, .bool (e18 == 90)), (38, .bool (e18 == 90)), (37, .bool (e18 == 90))] (fun _ => by kernel_rfl) ?_
  refine WL.done rfl ?_
  refine QX.then_normal (hK11 _ _ ?_)
  refine WC.ret ?_
  refine (hret _ _ _ rfl ?_).1
  clear hN hret hret' hK11 hK8 hK6 hK4 hK2
  exact ⟨congrArg (fun b_ => Ending.returned (Value.bool b_)) (show ((e18 == 90)) = true from by have z_ := he19; simp at z_; simp [← z_]), hC.fr⟩

theorem totE_good {L : List Cmd} (h : goodL (vals L) = true) : totE L ≤ 60000 := by
  refine totE_read (fun m hm => ?_) ?_
  · have := goodC_ends (goodL_all h m.v (List.mem_map.2 ⟨m, hm, rfl⟩)); omega
  · have := goodL_len h; rw [vals_len] at this; omega
theorem RRead_n (A : Option Addr) (n c : Nat) (bs : List Int) (w : World) (hr : Rd w 1 (Go.Tw.encI .u8) A bs) (hn : bs.length = n) (hb : byteL bs) (hl : n ≤ 4398046511104) : Calls Try.prog 13 #[.slice A n c] w fun e w' => ∃ (A2 : Option Addr) (c2 : Nat) (L2 : List Cmd) (R2 : List Nat), e = .returned (.tuple #[.slice A2 L2.length c2, .int .i64 (if readOk bs then 0 else 3)]) ∧ Fr w w' [] ∧ w'.ownsRow w.heap.size 61 12 (.slice A2 L2.length c2) L2.length (L2.flatMap cellsC) ∧ logIn w' R2 L2 ∧ vals L2 = (if readOk bs then readL bs else []) ∧ (∀ x ∈ R2, w.heap.size ≤ x ∧ x < w'.heap.size) ∧ (∀ x ∈ blk (.slice A2 L2.length c2), x ∉ R2) := by subst hn; exact RRead_ct A c bs w hr hb hl
set_option maxHeartbeats 2000000 in
theorem VoteReads_ct (A : Option Addr) (c : Nat) (bs : List Int) (w : World) (hr : Rd w 1 (Go.Tw.encI .u8) A bs) (hb : byteL bs) (hll : bs.length ≤ 9223372036854775807) : Calls Try.prog 3 #[.slice A bs.length c] w fun e w' => e = .returned (.bool true) ∧ Fr w w' [] := by
  refine enterD (n := 61) Try.func3 rfl rfl (Nat.le_of_ble_eq_true rfl) ?_
  intro Q0 hN hret hret'
  have hC := Cx.start w
  refine WC.seq (fun K1 hK2 => ?_)
  refine WC.region ?_
  refine WL.runs 1 [(2, .bool false)] (fun _ => by kernel_rfl) ?_
  refine WL.done rfl ?_
  refine QX.then_normal (hK2 _ _ ?_)
  refine WC.seq (fun K3 hK4 => ?_)
  refine WC.seq (fun K5 hK6 => ?_)
  refine WC.region ?_
  refine WL.call rfl rfl rfl rfl rfl (by kernel_rfl) (alive_ct w) ?_
  rintro _ w8 ⟨rfl, hF7⟩
  refine ⟨_, rfl, ?_⟩
  have hC9 := hC.call hF7
  refine WL.runs 1 [(10, .bool false)] (fun _ => by kernel_rfl) ?_
  refine WL.done rfl ?_
  refine QX.then_normal (hK6 _ _ ?_)
  refine WC.cond_false rfl ?_
  refine WC.skip ?_
  refine QX.then_normal (hK4 _ _ ?_)
  refine WC.seq (fun K10 hK11 => ?_)
  refine WC.seq (fun K12 hK13 => ?_)
  refine WC.region ?_
  refine WL.runs 3 [(13, .bool (decide ((bs.length : Int) > 8192))), (12, .int .i64 (bs.length : Int)), (11, .slice A bs.length c)] (fun _ => by kernel_rfl) ?_
  refine WL.done rfl ?_
  refine QX.then_normal (hK13 _ _ ?_)
  refine WC.test_at 13 (decide ((bs.length : Int) > 8192)) rfl (fun t14b => ?_) (fun t14b => ?_)
  · -- (bs.length : Int) > 8192: true
    have t14 : (8192 : Int) < (bs.length : Int) := by have q_ := of_decide_eq_true t14b; omega
    refine WC.cond_true rfl ?_
    refine WC.seq (fun K15 hK16 => ?_)
    refine WC.region ?_
    refine WL.runs 1 [(2, .bool true)] (fun _ => by kernel_rfl) ?_
    refine WL.done rfl ?_
    refine QX.then_normal (hK16 _ _ ?_)
    refine WC.ret ?_
    refine QX.then_ret ?_
    refine (hret _ _ _ rfl ?_).1
    clear hN hret hret' hK16 hK13 hK11 hK6 hK4 hK2
    exact ⟨rfl, hC9.fr⟩
  · -- (bs.length : Int) > 8192: false
    have t14 : (bs.length : Int) ≤ 8192 := by have q_ := of_decide_eq_false t14b; omega
    refine WC.cond_false rfl ?_
    refine WC.skip ?_
    refine QX.then_normal (hK11 _ _ ?_)
    refine WC.seq (fun K17 hK18 => ?_)
    refine WC.region ?_
    refine WL.runs 1 [(14, .slice A bs.length c)] (fun _ => by kernel_rfl) ?_
    refine WL.call rfl rfl rfl rfl rfl (by kernel_rfl) (CopyB_ct A c bs w8 (Rd.fr hr hC9.fr) (by omega)) ?_
    rintro _ w23 ⟨A19, c20, rfl, hF22, ho21⟩
    have hC24 := hC9.callN hF22 (own_ge ho21) (own_lt ho21)
    refine ⟨_, rfl, ?_⟩
    rw [blk_n A19 (bs.length + 2) c20 (bs.length) c20] at hC24
    have ho25 := own_base (b' := 0) ho21 (fun _ _ => Nat.zero_le _)
    have ho26 := own_takeE (m := bs.length) (Go.Tw.encI_len _) ho25 (by omega)
    have hle27 := own_le ho25
    rw [show List.take bs.length (bs ++ [165, 90]) = bs from by simp] at ho26
    refine WL.runs 1 [(3, .slice A19 bs.length c20)] (fun _ => by kernel_rfl) ?_
    refine WL.done rfl ?_
    refine QX.then_normal (hK18 _ _ ?_)
    refine WC.seq (fun K28 hK29 => ?_)
    refine WC.region ?_
    refine WL.runs 1 [(17, .slice A19 bs.length c20)] (fun _ => by kernel_rfl) ?_
    refine WL.call rfl rfl rfl rfl rfl (by kernel_rfl) (Read_n A19 bs.length c20 bs w23 (own_rd ho26 (Go.Tw.encI_len _) (by decide)) rfl hb (own_le ho26) (own_max ho26)) ?_
    rintro _ w35 ⟨A30, c31, L32, R33, rfl, hF34, ho37, hli38, hvv39, hRg40, hdd41⟩
    have hC36 := callNN hC24 hF34 (own_ge ho37) (own_lt ho37) (fun x_ h_ => (hRg40 x_ h_).1) (fun x_ h_ => (hRg40 x_ h_).2) hdd41
    have ho42 := own_base (b' := 0) ho37 (fun _ _ => Nat.zero_le _)
    refine ⟨_, rfl, ?_⟩
    have ho43 := own_fr ho26 hF34 (by simp)
    have ho44 := own_fr ho25 hF34 (by simp)
    refine WL.runs 5 [(5, errV 35 (if readOk bs then 0 else 3)), (4, .slice A30 L32.length c31), (20, errV 35 (if readOk bs then 0 else 3)), (19, .slice A30 L32.length c31), (16, .tuple #[.slice A30 L32.length c31, errV 35 (if readOk bs then 0 else 3)])] (fun _ => by kernel_rfl) ?_
    refine WL.done rfl ?_
    refine QX.then_normal (hK29 _ _ ?_)
    refine WC.seq (fun K46 hK47 => ?_)
    refine WC.region ?_
    refine WL.runs 1 [(22, .slice A bs.length c)] (fun _ => by kernel_rfl) ?_
    refine WL.call rfl rfl rfl rfl rfl (by kernel_rfl) (RRead_n A bs.length c bs w35 (Rd.fr hr hC36.fr) rfl hb (by omega)) ?_
    rintro _ w53 ⟨A48, c49, L50, R51, rfl, hF52, ho54, hli55, hvv56, hRg57, hdd58⟩
    have hC59 := callNN hC36 hF52 (own_ge ho54) (own_lt ho54) (fun x_ h_ => (hRg57 x_ h_).1) (fun x_ h_ => (hRg57 x_ h_).2) hdd58
    have ho60 := own_base (b' := 0) ho54 (fun _ _ => Nat.zero_le _)
    refine ⟨_, rfl, ?_⟩
    have ho61 := own_fr ho43 hF52 (by simp)
    have ho62 := own_fr ho44 hF52 (by simp)
    have ho63 := own_fr ho42 hF52 (by simp)
    have hl64 := logIn.fr hli38 hF52 (by simp)
    refine WL.runs 5 [(7, .int .i64 (if readOk bs then (0 : Int) else 3)), (6, .slice A48 L50.length c49), (25, .int .i64 (if readOk bs then (0 : Int) else 3)), (24, .slice A48 L50.length c49), (21, .tuple #[.slice A48 L50.length c49, .int .i64 (if readOk bs then (0 : Int) else 3)])] (fun _ => by kernel_rfl) ?_
    refine WL.done rfl ?_
    refine QX.then_normal (hK47 _ _ ?_)
    refine WC.seq (fun K66 hK67 => ?_)
    refine WC.seq (fun K68 hK69 => ?_)
    refine WC.region ?_
    refine WL.runs 2 [(27, .slice A48 L50.length c49), (26, .slice A30 L32.length c31)] (fun _ => by kernel_rfl) ?_
    have hlen_ : ∀ {L_ : List Cmd}, vals L_ = (if readOk bs then readL bs else []) → L_.length ≤ 1099511627776 := fun {L_} h_ => by
      rw [← vals_len, h_]
      cases hk_ : readOk bs
      · exact Nat.zero_le _
      · have z_ := goodL_len (readOk_yes hk_).1; rw [if_pos rfl]; omega
    refine WL.call rfl rfl rfl rfl rfl (by kernel_rfl) (RSame_n A30 A48 L32.length c31 L50.length c49 L32 L50 w53 (own_rd ho63 cellsC_len (by decide)) (own_rd ho60 cellsC_len (by decide)) rfl rfl (fun m_ h_ => hl64.at_ m_ h_) (fun m_ h_ => hli55.at_ m_ h_) (hlen_ hvv39)) ?_
    rintro _ w71 ⟨rfl, hF70⟩
    refine ⟨_, rfl, ?_⟩
    have hC72 := hC59.call hF70
    have ho73 := own_fr ho61 hF70 (by simp)
    have ho74 := own_fr ho62 hF70 (by simp)
    have ho75 := own_fr ho63 hF70 (by simp)
    have hl76 := logIn.fr hl64 hF70 (by simp)
    have ho77 := own_fr ho60 hF70 (by simp)
    have hl78 := logIn.fr hli55 hF70 (by simp)
    refine WL.runs 2 [(30, .bool (!(decide (vals L32 = vals L50)))), (29, .bool (!(decide (vals L32 = vals L50))))] (fun _ => by kernel_rfl) ?_
    refine WL.know 30 (.bool (!(decide (vals L32 = vals L50)))) (.bool false) rfl (congrArg Value.bool (by simp [hvv39, hvv56])) ?_
    refine WL.runs 1 [(31, errV 35 (if readOk bs then 0 else 3))] (fun _ => by kernel_rfl) ?_
    refine WL.call rfl rfl rfl rfl rfl (by kernel_rfl) (Num_ct (if readOk bs then 0 else 3) w71) ?_
    rintro _ w80 ⟨rfl, hF79⟩
    refine ⟨_, rfl, ?_⟩
    have hC81 := hC72.call hF79
    have ho82 := own_fr ho73 hF79 (by simp)
    have ho83 := own_fr ho74 hF79 (by simp)
    have ho84 := own_fr ho75 hF79 (by simp)
    have hl85 := logIn.fr hl76 hF79 (by simp)
    have ho86 := own_fr ho77 hF79 (by simp)
    have hl87 := logIn.fr hl78 hF79 (by simp)
    refine WL.runs 4 [(36, .bool ((if readOk bs then 0 else 3 : Int) != (if readOk bs then (0 : Int) else 3))), (35, .bool ((if readOk bs then 0 else 3 : Int) != (if readOk bs then (0 : Int) else 3))), (34, .bool ((if readOk bs then 0 else 3 : Int) != (if readOk bs then (0 : Int) else 3))), (33, .int .i64 (if readOk bs then (0 : Int) else 3))] (fun _ => by kernel_rfl) ?_
    refine WL.know 36 (.bool ((if readOk bs then 0 else 3 : Int) != (if readOk bs then (0 : Int) else 3))) (.bool false) rfl (congrArg Value.bool (by simp)) ?_
    refine WL.runs 2 [(38, .slice A bs.length c), (37, .slice A19 bs.length c20)] (fun _ => by kernel_rfl) ?_
    have hle2_ := own_le ho83
    refine WL.call rfl rfl rfl rfl rfl (by kernel_rfl) (KeptB_ct A19 A c20 c bs w80 (own_rd ho82 (Go.Tw.encI_len _) (by decide)) (own_rd ho83 (Go.Tw.encI_len _) (by decide)) (Rd.fr hr hC81.fr) (by omega) (by omega)) ?_
    rintro _ w89 ⟨rfl, hF88⟩
    refine ⟨_, rfl, ?_⟩
    have hC90 := hC81.call hF88
    have ho91 := own_fr ho82 hF88 (by simp)
    have ho92 := own_fr ho83 hF88 (by simp)
    have ho93 := own_fr ho84 hF88 (by simp)
    have hl94 := logIn.fr hl85 hF88 (by simp)
    have ho95 := own_fr ho86 hF88 (by simp)
    have hl96 := logIn.fr hl87 hF88 (by simp)
    refine WL.runs 2 [(41, .bool false), (40, .bool false)] (fun _ => by kernel_rfl) ?_
    refine WL.done rfl ?_
    refine QX.then_normal (hK69 _ _ ?_)
    refine WC.cond_false rfl ?_
    refine WC.skip ?_
    refine QX.then_normal (hK67 _ _ ?_)
    refine WC.seq (fun K97 hK98 => ?_)
    refine WC.seq (fun K99 hK100 => ?_)
    refine WC.region ?_
    refine WL.runs 1 [(42, errV 35 (if readOk bs then 0 else 3))] (fun _ => by kernel_rfl) ?_
    have hr101 : ∀ w_, Sem.run Try.prog (do eqGuard .neq 27 (Operand.tmp 42) (Operand.const (.nilIface)) (errV 35 (if readOk bs then 0 else 3)) (.nilIface); binOp .neq 27 (errV 35 (if readOk bs then 0 else 3)) (.nilIface)) w_ = .ok (.bool (!(readOk bs))) w_ := fun w_ => (err_neq _ (if readOk bs then 0 else 3) (readOk bs) (by cases readOk bs <;> rfl) _)
    refine WL.sem (do eqGuard .neq 27 (Operand.tmp 42) (Operand.const (.nilIface)) (errV 35 (if readOk bs then 0 else 3)) (.nilIface); binOp .neq 27 (errV 35 (if readOk bs then 0 else 3)) (.nilIface)) 43 (.bool (!(readOk bs))) (by kernel_rfl) (hr101 _) ?_
    refine WL.done rfl ?_
    refine QX.then_normal (hK100 _ _ ?_)
    refine WC.test_at 43 (!(readOk bs)) rfl (fun t102b => ?_) (fun t102b => ?_)
    · -- (!(readOk bs)) = true: true
      have t102 : (readOk bs) = false := by first | (simpa only [Bool.not_eq_true', Bool.not_eq_false'] using t102b) | simpa using t102b
      refine WC.cond_true rfl ?_
      refine WC.seq (fun K103 hK104 => ?_)
      refine WC.region ?_
      refine WL.runs 2 [(45, .iface 35 (.int .i64 3)), (44, errV 35 (if readOk bs then 0 else 3))] (fun _ => by kernel_rfl) ?_
      have hr105 : ∀ w_, Sem.run Try.prog (do eqGuard .eql 27 (Operand.tmp 44) (Operand.tmp 45) (errV 35 (if readOk bs then 0 else 3)) (.iface 35 (.int .i64 3)); binOp .eql 27 (errV 35 (if readOk bs then 0 else 3)) (.iface 35 (.int .i64 3))) w_ = .ok (.bool (decide ((if readOk bs then 0 else 3) = (3 : Int)))) w_ := fun w_ => (err_eqlc _ _ (if readOk bs then 0 else 3) 3 (by decide) _)
      refine WL.sem (do eqGuard .eql 27 (Operand.tmp 44) (Operand.tmp 45) (errV 35 (if readOk bs then 0 else 3)) (.iface 35 (.int .i64 3)); binOp .eql 27 (errV 35 (if readOk bs then 0 else 3)) (.iface 35 (.int .i64 3))) 46 (.bool (decide ((if readOk bs then 0 else 3) = (3 : Int)))) (by kernel_rfl) (hr105 _) ?_
      refine WL.runs 1 [(2, .bool (decide ((if readOk bs then 0 else 3) = (3 : Int))))] (fun _ => by kernel_rfl) ?_
      refine WL.done rfl ?_
      refine QX.then_normal (hK104 _ _ ?_)
      refine WC.ret ?_
      refine QX.then_ret ?_
      refine (hret _ _ _ rfl ?_).1
      clear hN hret hret' hK104 hK100 hK98 hK69 hK67 hK47 hK29 hK18 hK13 hK11 hK6 hK4 hK2
      exact ⟨congrArg (fun b_ => Ending.returned (Value.bool b_)) (show ((decide ((if readOk bs then 0 else 3) = (3 : Int)))) = true from by have hno_ : readOk bs = false := (by simpa using t102b); rw [hno_]; rfl), hC90.fr⟩
    · -- (!(readOk bs)) = true: false
      have t102 : (readOk bs) = true := by first | (simpa only [Bool.not_eq_true', Bool.not_eq_false'] using t102b) | simpa using t102b
      refine WC.cond_false rfl ?_
      refine WC.skip ?_
      refine QX.then_normal (hK98 _ _ ?_)
      refine WC.seq (fun K106 hK107 => ?_)
      refine WC.region ?_
      refine WL.runs 1 [(48, .slice A30 L32.length c31)] (fun _ => by kernel_rfl) ?_
      have hok_ : readOk bs = true := (by simpa using t102b)
      have htg_ := totE_good (L := L32) (by rw [hvv39, hok_, if_pos rfl]; exact (readOk_yes hok_).1)
      refine WL.call rfl rfl rfl rfl rfl (by kernel_rfl) (Write_n A30 L32.length c31 L32 w89 (own_rd ho93 cellsC_len (by decide)) (own_count cellsC_len (by decide) ho93) (fun m_ h_ => hl94.at_ m_ h_) (Nat.le_trans htg_ (by decide))) ?_
      rintro _ w110 ⟨v_, rfl, hF109, ho108⟩
      have hC111 := hC90.callN hF109 (own_ge ho108) (own_lt ho108)
      obtain ⟨A112, c113, rfl, hle114⟩ := own_form ho108
      have ho116 := own_base (b' := 0) ho108 (fun _ _ => Nat.zero_le _)
      refine ⟨_, rfl, ?_⟩
      have ho117 := own_fr ho91 hF109 (by simp)
      have ho118 := own_fr ho92 hF109 (by simp)
      have ho119 := own_fr ho93 hF109 (by simp)
      have hl120 := logIn.fr hl94 hF109 (by simp)
      have ho121 := own_fr ho95 hF109 (by simp)
      have hl122 := logIn.fr hl96 hF109 (by simp)
      refine WL.runs 5 [(5, errV 35 (if goodL (vals L32) then 0 else 9)), (8, .slice A112 ((if goodL (vals L32) then bytesL (vals L32) else []).length) c113), (51, errV 35 (if goodL (vals L32) then 0 else 9)), (50, .slice A112 ((if goodL (vals L32) then bytesL (vals L32) else []).length) c113), (47, .tuple #[.slice A112 ((if goodL (vals L32) then bytesL (vals L32) else []).length) c113, errV 35 (if goodL (vals L32) then 0 else 9)])] (fun _ => by kernel_rfl) ?_
      refine WL.done rfl ?_
      refine QX.then_normal (hK107 _ _ ?_)
      refine WC.seq (fun K124 hK125 => ?_)
      refine WC.region ?_
      refine WL.runs 1 [(52, errV 35 (if goodL (vals L32) then 0 else 9))] (fun _ => by kernel_rfl) ?_
      have hr126 : ∀ w_, Sem.run Try.prog (do eqGuard .eql 27 (Operand.tmp 52) (Operand.const (.nilIface)) (errV 35 (if goodL (vals L32) then 0 else 9)) (.nilIface); binOp .eql 27 (errV 35 (if goodL (vals L32) then 0 else 9)) (.nilIface)) w_ = .ok (.bool (goodL (vals L32))) w_ := fun w_ => (err_eql _ (if goodL (vals L32) then 0 else 9) (goodL (vals L32)) (by cases goodL (vals L32) <;> rfl) _)
      refine WL.sem (do eqGuard .eql 27 (Operand.tmp 52) (Operand.const (.nilIface)) (errV 35 (if goodL (vals L32) then 0 else 9)) (.nilIface); binOp .eql 27 (errV 35 (if goodL (vals L32) then 0 else 9)) (.nilIface)) 53 (.bool (goodL (vals L32))) (by kernel_rfl) (hr126 _) ?_
      refine WL.runs 1 [(54, .bool (goodL (vals L32)))] (fun _ => by kernel_rfl) ?_
      refine WL.know 54 (.bool (goodL (vals L32))) (.bool true) rfl (congrArg Value.bool (by rw [hvv39, hok_, if_pos rfl]; exact (readOk_yes hok_).1)) ?_
      refine WL.runs 1 [(55, .slice A112 ((if goodL (vals L32) then bytesL (vals L32) else []).length) c113)] (fun _ => by kernel_rfl) ?_
      refine WL.sem (convert 22 9 (.slice A112 ((if goodL (vals L32) then bytesL (vals L32) else []).length) c113)) 56 (.string (strOfNums (if goodL (vals L32) then bytesL (vals L32) else []))) (by kernel_rfl) (run_bytes_str rfl rfl rfl (own_rd ho116 (Go.Tw.encI_len _) (by decide)) (own_count (Go.Tw.encI_len _) (by decide) ho116)) ?_
      refine WL.runs 1 [(57, .slice A bs.length c)] (fun _ => by kernel_rfl) ?_
      refine WL.sem (convert 22 9 (.slice A bs.length c)) 58 (.string (strOfNums bs)) (by kernel_rfl) (run_bytes_str rfl rfl rfl (Rd.fr hr hC111.fr) (by first | rfl | assumption | (simp; done))) ?_
      refine WL.runs 1 [(59, .bool ((strOfNums (if goodL (vals L32) then bytesL (vals L32) else [])).toList == (strOfNums bs).toList))] (fun _ => by kernel_rfl) ?_
      refine WL.recast (show (.bool ((strOfNums (if goodL (vals L32) then bytesL (vals L32) else [])).toList == (strOfNums bs).toList) : Value) = .bool (decide ((strOfNums (if goodL (vals L32) then bytesL (vals L32) else [])) = (strOfNums bs))) from by rw [str_eql]) ?_
      refine WL.runs 2 [(2, .bool (decide ((strOfNums (if goodL (vals L32) then bytesL (vals L32) else [])) = (strOfNums bs)))), (60, .bool (decide ((strOfNums (if goodL (vals L32) then bytesL (vals L32) else [])) = (strOfNums bs))))] (fun _ => by kernel_rfl) ?_
      refine WL.done rfl ?_
      refine QX.then_normal (hK125 _ _ ?_)
      refine WC.ret ?_
      refine (hret _ _ _ rfl ?_).1
      clear hN hret hret' hK125 hK107 hK100 hK98 hK69 hK67 hK47 hK29 hK18 hK13 hK11 hK6 hK4 hK2
      exact ⟨congrArg (fun b_ => Ending.returned (Value.bool b_)) (show ((decide ((strOfNums (if goodL (vals L32) then bytesL (vals L32) else [])) = (strOfNums bs)))) = true from by rw [decide_eq_true_eq]; rw [hvv39, hok_, if_pos rfl, if_pos (readOk_yes hok_).1, (readOk_yes hok_).2]), hC111.fr⟩

end Go.Proofs.Ytjacpjdikhlcoaa
