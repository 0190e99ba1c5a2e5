/- Contracts of functions of the program, each proved by a walk through its code; conditions stand in the statements. -/
import Derived.Test.YtkhdliobbbmkoaaSbD13
namespace Go.Proofs.Ytkhdliobbbmkoaa
set_option linter.unusedSimpArgs false
set_option linter.unusedVariables false
set_option linter.unusedSectionVars false
open Go Go.RowKit Go.Tw
set_option linter.unusedVariables false
set_option maxRecDepth 20000
theorem Get_yes (F : List Nat) (p : Nat) (N Y : Ct) (size : Int) (key : ByteArray) (xs : List Int) (w : World) (ht : stAt w F p N Y size) (hl : lookL N key = some xs) : Calls Try.prog 15 #[.pointer (some ⟨p, 0, none⟩), .string key] w fun e w' => ∃ v, e = .returned (.tuple #[v, .nilIface]) ∧ Fr w w' [] ∧ w'.ownsRow w.heap.size 5 1 v xs.length (xs.flatMap (Go.Tw.encI .u8)) := by
  have h := Get_ct F p N Y size key w ht
  rw [hl] at h
  exact h
theorem Get_no (F : List Nat) (p : Nat) (N Y : Ct) (size : Int) (key : ByteArray) (w : World) (ht : stAt w F p N Y size) (hl : lookL N key = none) : Calls Try.prog 15 #[.pointer (some ⟨p, 0, none⟩), .string key] w fun e w' => ∃ v, e = .returned (.tuple #[v, .iface 38 (.int .i64 6)]) ∧ Fr w w' [] ∧ w'.ownsRow w.heap.size 5 1 v ([] : List Int).length (([] : List Int).flatMap (Go.Tw.encI .u8)) := by
  have h := Get_ct F p N Y size key w ht
  rw [hl] at h
  exact h
theorem Put_yes (F : List Nat) (p : Nat) (N Y : Ct) (size : Int) (key : ByteArray) (A : Option Addr) (c : Nat) (ps : List BRow) (w : World) (ht : stAt w F p N Y size) (hps : Rd w 1 cellB A ps) (hr : ∀ r ∈ ps, rowAt w r) (hpl : ps.length < 2 ^ 60) (hl : putE N size key (catL ps).length = 0) : Calls Try.prog 12 #[.pointer (some ⟨p, 0, none⟩), .string key, .slice A ps.length c] w fun e w' => ∃ F2, e = .returned (.nilIface) ∧ Fr w w' F ∧ stAt w' F2 p (putL N key (catL ps)) Y size ∧ ∀ x ∈ F2, x ∈ F ∨ w.heap.size ≤ x := by
  have h := Put_ct F p N Y size key A c ps w ht hps hr hpl
  rw [hl, if_pos rfl] at h
  exact h
theorem alive_ct  (w : World) : Calls Try.prog 9 #[] w fun e w' => e = .returned (.bool true) ∧ Fr w w' [] := by
 refine enterD (n := 74) Try.func9 rfl rfl (Nat.le_of_ble_eq_true rfl) ?_
 intro Q0 hN hret hret'
 have hC := Cx.start w
 refine WCs (fun K1 hK2 => ?_)
 refine WCg (WLr 1 [(0, .bool false)] (fun _ => by kernel_rfl) (WLd rfl (QXn (hK2 _ _ ?_))))
 refine WCs (fun K3 hK4 => ?_)
 refine WCg ?_
 refine WLc rfl rfl rfl rfl rfl (by kernel_rfl) (New_ct 100 w (by omega) (by omega)) ?_
 rintro _ w8 ⟨p5, F6, rfl, hF7, hT10, hge11⟩
 have hC9 := hC.callN hF7 hge11 (stAt_lt hT10)
 refine ⟨_, rfl, ?_⟩
 refine WLr 5 [(2, .nilIface), (1, .pointer (some ⟨p5, 0, none⟩)), (10, .nilIface), (9, .pointer (some ⟨p5, 0, none⟩)), (7, .tuple #[.pointer (some ⟨p5, 0, none⟩), .nilIface])] (fun _ => by kernel_rfl) (WLd rfl (QXn (hK4 _ _ ?_)))
 refine WCs (fun K13 hK14 => ?_)
 refine WCs (fun K15 hK16 => ?_)
 refine WCg (WLr 8 [(18, .pointer (some ⟨p5, 0, none⟩)), (17, .bool false), (16, .bool false), (15, .bool false), (14, .pointer (some ⟨p5, 0, none⟩)), (13, .bool false), (12, .bool false), (11, .nilIface)] (fun _ => by kernel_rfl) ?_)
 refine WL.newM hC9 (fun b => .slice (some ⟨b, 0, none⟩) 1 1) (.cells #[.int .u8 120] 5) 19 (fun _ => by kernel_rfl) (fun g17 w18 hb21 hF19 hC20 => ?_)
 have hf22 := stAt_fr hT10 hF19 (by simp)
 obtain ⟨w23, hr24, hF25, hC26⟩ := mark_run (P := Try.prog) (t := 22) (e := 5) (b := g17) (n := 1) (c := 1) (C := #[.int .u8 120]) hC20 0 rfl rfl rfl
 refine WL.sem (convert 22 22 (.slice (some ⟨g17, 0, none⟩) 1 1)) 20 (.slice (some ⟨g17, 0, none⟩) 1 1) (by kernel_rfl) hr24 ?_
 have hf27 := stAt_fr hf22 hF25 (hC20.apartM 0 0 rfl rfl)
 refine WL.newM hC26 (fun b => .slice (some ⟨b, 0, none⟩) 1 1) (.cells #[.slice (some ⟨g17, 0, none⟩) 1 1] 22) 21 (fun _ => by kernel_rfl) (fun g28 w29 hb32 hF30 hC31 => ?_)
 have hf33 := stAt_fr hf27 hF30 (by simp)
 have hr34 : ∀ r_ ∈ ([(⟨some ⟨g17, 0, none⟩, 1, 1, [120]⟩ : BRow)] : List BRow), rowAt w29 r_ := by
  intro r_ hr_; simp only [List.mem_cons, List.not_mem_nil, or_false] at hr_
  rcases hr_ with rfl
  ·
   exact ⟨Rd.blk (hC31.get 0 rfl) (Go.Tw.encI_len _) rfl, rfl, by intro x_ hx_; simp at hx_; omega⟩
 refine WLc rfl rfl rfl rfl rfl (by kernel_rfl) (Put_yes F6 p5 [] [] 100 (⟨#[97]⟩ : ByteArray) (some ⟨g28, 0, none⟩) 1 [(⟨some ⟨g17, 0, none⟩, 1, 1, [120]⟩ : BRow)] w29 hf33 (Rd.blk (hC31.get 1 rfl) cellB_len rfl) hr34 (by simp) (by show putE [] 100 (⟨#[97]⟩ : ByteArray) 1 = 0; decide +kernel)) ?_
 rintro _ w36 ⟨F39, rfl, hF35, hT38, hsub40⟩
 have hT38' : stAt w36 F39 p5 (putL [] (⟨#[97]⟩ : ByteArray) [120]) [] 100 := hT38
 have hC37 := hC31.callF 0 rfl hF35 hsub40 (stAt_lt hT38')
 refine ⟨_, rfl, ?_⟩
 refine WLr 4 [(26, .pointer (some ⟨p5, 0, none⟩)), (25, .bool false), (24, .bool false), (23, .bool false)] (fun _ => by kernel_rfl) ?_
 refine WLc rfl rfl rfl rfl rfl (by kernel_rfl) (Sync_ct F39 p5 (putL [] (⟨#[97]⟩ : ByteArray) [120]) [] 100 w36 hT38') ?_
 rintro _ w42 ⟨F45, rfl, hF41, hT44, hsub46⟩
 have hT44' : stAt w42 F45 p5 (putL [] (⟨#[97]⟩ : ByteArray) [120]) (putL [] (⟨#[97]⟩ : ByteArray) [120]) 100 := hT44
 have hC43 := hC37.callF 0 rfl hF41 hsub46 (stAt_lt hT44')
 refine ⟨_, rfl, ?_⟩
 refine WLr 3 [(30, .bool ((unlN (putL [] (⟨#[97]⟩ : ByteArray) [120]) [] : Int) != 1)), (29, .bool ((unlN (putL [] (⟨#[97]⟩ : ByteArray) [120]) [] : Int) != 1)), (28, .bool ((unlN (putL [] (⟨#[97]⟩ : ByteArray) [120]) [] : Int) != 1))] (fun _ => by kernel_rfl) ?_
 refine WL.know 30 (.bool ((unlN (putL [] (⟨#[97]⟩ : ByteArray) [120]) [] : Int) != 1)) (.bool false) rfl (congrArg Value.bool (by decide +kernel)) ?_
 refine WLr 1 [(31, .pointer (some ⟨p5, 0, none⟩))] (fun _ => by kernel_rfl) ?_
 refine WL.newM hC43 (fun b => .slice (some ⟨b, 0, none⟩) 1 1) (.cells #[.int .u8 121] 5) 32 (fun _ => by kernel_rfl) (fun g47 w48 hb51 hF49 hC50 => ?_)
 have hf52 := stAt_fr hT44' hF49 (by simp)
 obtain ⟨w53, hr54, hF55, hC56⟩ := mark_run (P := Try.prog) (t := 22) (e := 5) (b := g47) (n := 1) (c := 1) (C := #[.int .u8 121]) hC50 2 rfl rfl rfl
 refine WL.sem (convert 22 22 (.slice (some ⟨g47, 0, none⟩) 1 1)) 33 (.slice (some ⟨g47, 0, none⟩) 1 1) (by kernel_rfl) hr54 ?_
 have hf57 := stAt_fr hf52 hF55 (hC50.apartM 0 2 rfl rfl)
 refine WL.newM hC56 (fun b => .slice (some ⟨b, 0, none⟩) 1 1) (.cells #[.slice (some ⟨g47, 0, none⟩) 1 1] 22) 34 (fun _ => by kernel_rfl) (fun g58 w59 hb62 hF60 hC61 => ?_)
 have hf63 := stAt_fr hf57 hF60 (by simp)
 have hr64 : ∀ r_ ∈ ([(⟨some ⟨g47, 0, none⟩, 1, 1, [121]⟩ : BRow)] : List BRow), rowAt w59 r_ := by
  intro r_ hr_; simp only [List.mem_cons, List.not_mem_nil, or_false] at hr_
  rcases hr_ with rfl
  ·
   exact ⟨Rd.blk (hC61.get 2 rfl) (Go.Tw.encI_len _) rfl, rfl, by intro x_ hx_; simp at hx_; omega⟩
 refine WLc rfl rfl rfl rfl rfl (by kernel_rfl) (Put_yes F45 p5 (putL [] (⟨#[97]⟩ : ByteArray) [120]) (putL [] (⟨#[97]⟩ : ByteArray) [120]) 100 (⟨#[97]⟩ : ByteArray) (some ⟨g58, 0, none⟩) 1 [(⟨some ⟨g47, 0, none⟩, 1, 1, [121]⟩ : BRow)] w59 hf63 (Rd.blk (hC61.get 3 rfl) cellB_len rfl) hr64 (by simp) (by show putE (putL [] (⟨#[97]⟩ : ByteArray) [120]) 100 (⟨#[97]⟩ : ByteArray) 1 = 0; decide +kernel)) ?_
 rintro _ w66 ⟨F69, rfl, hF65, hT68, hsub70⟩
 have hT68' : stAt w66 F69 p5 (putL (putL [] (⟨#[97]⟩ : ByteArray) [120]) (⟨#[97]⟩ : ByteArray) [121]) (putL [] (⟨#[97]⟩ : ByteArray) [120]) 100 := hT68
 have hC67 := hC61.callF 0 rfl hF65 hsub70 (stAt_lt hT68')
 refine ⟨_, rfl, ?_⟩
 refine WLr 4 [(39, .pointer (some ⟨p5, 0, none⟩)), (38, .bool false), (37, .bool false), (36, .bool false)] (fun _ => by kernel_rfl) ?_
 refine WL.newM hC67 (fun b => .slice (some ⟨b, 0, none⟩) 1 1) (.cells #[.int .u8 122] 5) 40 (fun _ => by kernel_rfl) (fun g71 w72 hb75 hF73 hC74 => ?_)
 have hf76 := stAt_fr hT68' hF73 (by simp)
 obtain ⟨w77, hr78, hF79, hC80⟩ := mark_run (P := Try.prog) (t := 22) (e := 5) (b := g71) (n := 1) (c := 1) (C := #[.int .u8 122]) hC74 4 rfl rfl rfl
 refine WL.sem (convert 22 22 (.slice (some ⟨g71, 0, none⟩) 1 1)) 41 (.slice (some ⟨g71, 0, none⟩) 1 1) (by kernel_rfl) hr78 ?_
 have hf81 := stAt_fr hf76 hF79 (hC74.apartM 0 4 rfl rfl)
 refine WL.newM hC80 (fun b => .slice (some ⟨b, 0, none⟩) 1 1) (.cells #[.slice (some ⟨g71, 0, none⟩) 1 1] 22) 42 (fun _ => by kernel_rfl) (fun g82 w83 hb86 hF84 hC85 => ?_)
 have hf87 := stAt_fr hf81 hF84 (by simp)
 have hr88 : ∀ r_ ∈ ([(⟨some ⟨g71, 0, none⟩, 1, 1, [122]⟩ : BRow)] : List BRow), rowAt w83 r_ := by
  intro r_ hr_; simp only [List.mem_cons, List.not_mem_nil, or_false] at hr_
  rcases hr_ with rfl
  ·
   exact ⟨Rd.blk (hC85.get 4 rfl) (Go.Tw.encI_len _) rfl, rfl, by intro x_ hx_; simp at hx_; omega⟩
 refine WLc rfl rfl rfl rfl rfl (by kernel_rfl) (Put_yes F69 p5 (putL (putL [] (⟨#[97]⟩ : ByteArray) [120]) (⟨#[97]⟩ : ByteArray) [121]) (putL [] (⟨#[97]⟩ : ByteArray) [120]) 100 (⟨#[98]⟩ : ByteArray) (some ⟨g82, 0, none⟩) 1 [(⟨some ⟨g71, 0, none⟩, 1, 1, [122]⟩ : BRow)] w83 hf87 (Rd.blk (hC85.get 5 rfl) cellB_len rfl) hr88 (by simp) (by show putE (putL (putL [] (⟨#[97]⟩ : ByteArray) [120]) (⟨#[97]⟩ : ByteArray) [121]) 100 (⟨#[98]⟩ : ByteArray) 1 = 0; decide +kernel)) ?_
 rintro _ w90 ⟨F93, rfl, hF89, hT92, hsub94⟩
 have hT92' : stAt w90 F93 p5 (putL (putL (putL [] (⟨#[97]⟩ : ByteArray) [120]) (⟨#[97]⟩ : ByteArray) [121]) (⟨#[98]⟩ : ByteArray) [122]) (putL [] (⟨#[97]⟩ : ByteArray) [120]) 100 := hT92
 have hC91 := hC85.callF 0 rfl hF89 hsub94 (stAt_lt hT92')
 refine ⟨_, rfl, ?_⟩
 refine WLr 2 [(45, .bool false), (44, .bool false)] (fun _ => by kernel_rfl) (WLd rfl (QXn (hK16 _ _ ?_)))
 refine WCf rfl (WC.skip (QXn (hK14 _ _ ?_)))
 refine WCs (fun K95 hK96 => ?_)
 refine WCg (WLr 1 [(46, .pointer (some ⟨p5, 0, none⟩))] (fun _ => by kernel_rfl) ?_)
 refine WLc rfl rfl rfl rfl rfl (by kernel_rfl) (Crash_ct F93 p5 (putL (putL (putL [] (⟨#[97]⟩ : ByteArray) [120]) (⟨#[97]⟩ : ByteArray) [121]) (⟨#[98]⟩ : ByteArray) [122]) (putL [] (⟨#[97]⟩ : ByteArray) [120]) 100 w90 hT92') ?_
 rintro _ w98 ⟨F101, rfl, hF97, hT100, hsub102⟩
 have hT100' : stAt w98 F101 p5 (putL [] (⟨#[97]⟩ : ByteArray) [120]) (putL [] (⟨#[97]⟩ : ByteArray) [120]) 100 := hT100
 have hC99 := hC91.callF 0 rfl hF97 hsub102 (stAt_lt hT100')
 refine ⟨_, rfl, ?_⟩
 refine WLr 1 [(3, .int .i64 (unlN (putL (putL (putL [] (⟨#[97]⟩ : ByteArray) [120]) (⟨#[97]⟩ : ByteArray) [121]) (⟨#[98]⟩ : ByteArray) [122]) (putL [] (⟨#[97]⟩ : ByteArray) [120]) : Int))] (fun _ => by kernel_rfl) (WLd rfl (QXn (hK96 _ _ ?_)))
 refine WCs (fun K103 hK104 => ?_)
 refine WCg (WLr 1 [(49, .pointer (some ⟨p5, 0, none⟩))] (fun _ => by kernel_rfl) ?_)
 refine WLc rfl rfl rfl rfl rfl (by kernel_rfl) (Get_yes F101 p5 (putL [] (⟨#[97]⟩ : ByteArray) [120]) (putL [] (⟨#[97]⟩ : ByteArray) [120]) 100 (⟨#[97]⟩ : ByteArray) [120] w98 hT100' (by decide +kernel)) ?_
 rintro _ w107 ⟨v_, rfl, hF106, ho105⟩
 have hC108 := hC99.callN hF106 (own_ge ho105) (own_lt ho105)
 obtain ⟨A109, c110, rfl, hle111⟩ := own_form ho105
 have ho113 := own_base (b' := 0) ho105 (fun _ _ => Nat.zero_le _)
 refine ⟨_, rfl, ?_⟩
 have hf114 := stAt_fr hT100' hF106 (by simp)
 refine WLr 5 [(2, .nilIface), (4, .slice A109 ([120].length) c110), (52, .nilIface), (51, .slice A109 ([120].length) c110), (48, .tuple #[.slice A109 ([120].length) c110, .nilIface])] (fun _ => by kernel_rfl) (WLd rfl (QXn (hK104 _ _ ?_)))
 refine WCs (fun K116 hK117 => ?_)
 refine WCg (WLr 1 [(54, .pointer (some ⟨p5, 0, none⟩))] (fun _ => by kernel_rfl) ?_)
 refine WLc rfl rfl rfl rfl rfl (by kernel_rfl) (Get_no F101 p5 (putL [] (⟨#[97]⟩ : ByteArray) [120]) (putL [] (⟨#[97]⟩ : ByteArray) [120]) 100 (⟨#[98]⟩ : ByteArray) w107 hf114 (by decide +kernel)) ?_
 rintro _ w120 ⟨v_, rfl, hF119, ho118⟩
 have hC121 := hC108.callN hF119 (own_ge ho118) (own_lt ho118)
 obtain ⟨A122, c123, rfl, hle124⟩ := own_form ho118
 have ho126 := own_base (b' := 0) ho118 (fun _ _ => Nat.zero_le _)
 refine ⟨_, rfl, ?_⟩
 have ho128 := own_fr ho113 hF119 (by simp)
 refine WLr 5 [(6, .iface 38 (.int .i64 6)), (5, .slice A122 (([] : List Int).length) c123), (57, .iface 38 (.int .i64 6)), (56, .slice A122 (([] : List Int).length) c123), (53, .tuple #[.slice A122 (([] : List Int).length) c123, .iface 38 (.int .i64 6)])] (fun _ => by kernel_rfl) (WLd rfl (QXn (hK117 _ _ ?_)))
 refine WCs (fun K130 hK131 => ?_)
 refine WCg (WLr 3 [(60, .bool ((unlN (putL (putL (putL [] (⟨#[97]⟩ : ByteArray) [120]) (⟨#[97]⟩ : ByteArray) [121]) (⟨#[98]⟩ : ByteArray) [122]) (putL [] (⟨#[97]⟩ : ByteArray) [120]) : Int) == 2)), (59, .bool ((unlN (putL (putL (putL [] (⟨#[97]⟩ : ByteArray) [120]) (⟨#[97]⟩ : ByteArray) [121]) (⟨#[98]⟩ : ByteArray) [122]) (putL [] (⟨#[97]⟩ : ByteArray) [120]) : Int) == 2)), (58, .int .i64 (unlN (putL (putL (putL [] (⟨#[97]⟩ : ByteArray) [120]) (⟨#[97]⟩ : ByteArray) [121]) (⟨#[98]⟩ : ByteArray) [122]) (putL [] (⟨#[97]⟩ : ByteArray) [120]) : Int))] (fun _ => by kernel_rfl) ?_)
 refine WL.know 60 (.bool ((unlN (putL (putL (putL [] (⟨#[97]⟩ : ByteArray) [120]) (⟨#[97]⟩ : ByteArray) [121]) (⟨#[98]⟩ : ByteArray) [122]) (putL [] (⟨#[97]⟩ : ByteArray) [120]) : Int) == 2)) (.bool true) rfl (congrArg Value.bool (by decide +kernel)) ?_
 refine WLr 5 [(65, .slice A109 ([120].length) c110), (64, .bool true), (63, .bool true), (62, .bool true), (61, .nilIface)] (fun _ => by kernel_rfl) ?_
 refine WL.sem (convert 22 9 (.slice A109 ([120].length) c110)) 66 (.string (strOfNums [120])) (by kernel_rfl) (run_bytes_str rfl rfl rfl (own_rd ho128 (Go.Tw.encI_len _) (by decide)) (own_count (Go.Tw.encI_len _) (by decide) ho128)) ?_
 refine WLr 1 [(67, .bool ((strOfNums [120]).toList == (⟨#[120]⟩ : ByteArray).toList))] (fun _ => by kernel_rfl) ?_
 refine WLt (show (.bool ((strOfNums [120]).toList == (⟨#[120]⟩ : ByteArray).toList) : Value) = .bool (decide ((strOfNums [120]) = (⟨#[120]⟩ : ByteArray))) from by rw [str_eql]) ?_
 refine WLr 2 [(69, .bool (decide ((strOfNums [120]) = (⟨#[120]⟩ : ByteArray)))), (68, .bool (decide ((strOfNums [120]) = (⟨#[120]⟩ : ByteArray))))] (fun _ => by kernel_rfl) ?_
 refine WL.know 69 (.bool (decide ((strOfNums [120]) = (⟨#[120]⟩ : ByteArray)))) (.bool true) rfl (congrArg Value.bool (by decide +kernel)) ?_
 refine WLr 5 [(0, .bool true), (73, .bool true), (72, .bool true), (71, .iface 38 (.int .i64 6)), (70, .iface 38 (.int .i64 6))] (fun _ => by kernel_rfl) (WLd rfl (QXn (hK131 _ _ ?_)))
 refine WC.ret ?_
 refine (hret _ _ _ rfl ?_).1
 exact ⟨congrArg Ending.returned (congrArg Value.bool (by first | rfl | decide +kernel)), hC121.fr⟩

end Go.Proofs.Ytkhdliobbbmkoaa
