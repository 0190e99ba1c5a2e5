/- Contracts of functions of the program, each proved by a walk through its code; conditions stand in the statements. -/
import Derived.Test.YtjacpjdikhlcoaaVtN14
namespace Go.Proofs.Ytjacpjdikhlcoaa
set_option linter.unusedSimpArgs false
set_option linter.unusedVariables false
set_option linter.unusedSectionVars false
open Go Go.RowKit Go.Tw
set_option linter.unusedVariables false
set_option maxRecDepth 20000
theorem err_eqlc (X Y : Operand) (c k : Int) (hk : k ≠ 0) (w : World) : Sem.run Try.prog (do eqGuard .eql 27 X Y (errV 35 c) (.iface 35 (.int .i64 k)); binOp .eql 27 (errV 35 c) (.iface 35 (.int .i64 k))) w = .ok (.bool (decide (c = k))) w := by
  unfold errV
  by_cases hc : c = 0
  · subst hc
    have : decide ((0 : Int) = k) = false := decide_eq_false (fun e => hk e.symm)
    rw [this]
    show Sem.run Try.prog (do eqGuard .eql 27 X Y .nilIface (.iface 35 (.int .i64 k)); binOp .eql 27 .nilIface (.iface 35 (.int .i64 k))) w = _
    cases X <;> cases Y <;> kernel_rfl
  · simp only [hc, if_false]; cases X <;> cases Y <;> kernel_rfl
theorem health_at {seq : Int} (h : isI64 seq) (w : World) : cmdAt w (⟨⟨16, 0, seq, 0, 3, 0, 0, 0, [], 167837697, 0, true⟩, none, 0⟩ : Cmd) :=
  have z : ∀ k : Int, 0 ≤ k → k ≤ 100 → isI64 k := fun k h1 h2 => ⟨by omega, by omega⟩
  have u : ∀ k : Int, 0 ≤ k → k ≤ 4294967295 → isU32 k := fun k h1 h2 => ⟨h1, h2⟩
  ⟨Rd.nil _ _ _ _, ⟨z 16 (by decide) (by decide), z 0 (by decide) (by decide), h, z 0 (by decide) (by decide), z 3 (by decide) (by decide), u 0 (by decide) (by decide), z 0 (by decide) (by decide), z 0 (by decide) (by decide), u 167837697 (by decide) (by decide), u 0 (by decide) (by decide), fun _ h_ => (nomatch h_)⟩, Nat.zero_le _, Nat.zero_le _⟩
set_option maxHeartbeats 2000000 in
theorem alive_ct  (w : World) : Calls Try.prog 10 #[] w fun e w' => e = .returned (.bool true) ∧ Fr w w' [] := by
 refine enterD (n := 86) Try.func10 rfl rfl (Nat.le_of_ble_eq_true rfl) ?_
 intro Q0 hN hret hret'
 have hC := Cx.start w
 refine WCs (fun K1 hK2 => ?_)
 refine WCg (WLr 1 [(0, .bool false)] (fun _ => by kernel_rfl) (WLd rfl (QXn (hK2 _ _ ?_))))
 refine WCs (fun K3 hK4 => ?_)
 refine WCg ?_
 refine WLc rfl rfl rfl rfl rfl (by kernel_rfl) (opened_ct 100000 16 w (by decide) (by decide) ⟨by decide, by decide⟩ (by decide)) ?_
 rintro _ w9 ⟨sp5, p6, FA7, rfl, hF8, hvs11, hg12⟩
 have hC10 := hC.callN hF8 hg12 (vsAt_lt hvs11)
 refine ⟨_, rfl, ?_⟩
 refine WLr 5 [(2, .pointer (some ⟨p6, 0, none⟩)), (1, .pointer (some ⟨sp5, 0, none⟩)), (16, .pointer (some ⟨p6, 0, none⟩)), (15, .pointer (some ⟨sp5, 0, none⟩)), (13, .tuple #[.pointer (some ⟨sp5, 0, none⟩), .pointer (some ⟨p6, 0, none⟩)])] (fun _ => by kernel_rfl) (WLd rfl (QXn (hK4 _ _ ?_)))
 refine WCs (fun K13 hK14 => ?_)
 refine WCs (fun K15 hK16 => ?_)
 refine WCg (WLr 6 [(22, .bool false), (21, .bool false), (20, .pointer (some ⟨p6, 0, none⟩)), (19, .bool false), (18, .bool false), (17, .pointer (some ⟨sp5, 0, none⟩))] (fun _ => by kernel_rfl) (WLd rfl (QXn (hK16 _ _ ?_))))
 refine WCf rfl (WC.skip (QXn (hK14 _ _ ?_)))
 refine WCs (fun K17 hK18 => ?_)
 refine WCg (WLr 2 [(25, .agg #[.int .i64 2, .int .i64 16]), (24, .pointer (some ⟨p6, 0, none⟩))] (fun _ => by kernel_rfl) ?_)
 refine WLc rfl rfl rfl rfl rfl (by kernel_rfl) (PrepVS_yes FA7 p6 (⟨0, 0, 0, 0, [], 16⟩ : Vo) sp5 [] [] 100000 w9 hvs11 2 16 ⟨by decide, by decide⟩ (by decide +kernel) (by decide +kernel)) ?_
 rintro _ w33 ⟨A19, c20, L21, R22, FA23, rfl, hF24, hvs25, hsub26, hdj27, ho28, hli29, hvv30, hRg31, hgr32⟩
 have hC34 := callFLog hC10 0 rfl hF24 hsub26 (vsAt_lt hvs25) (own_ge ho28) (own_lt ho28) hRg31 hgr32 hdj27
 refine ⟨_, rfl, ?_⟩
 have ho35 := own_base (b' := 0) ho28 (fun _ _ => Nat.zero_le _)
 have hvvN_L21 : vals L21 = ([] : List CmdV) := hvv30
 have hll_L21 : L21.length = ([] : List CmdV).length := by rw [← vals_len, hvvN_L21]
 have hvsN37 : vsAt w33 FA23 p6 (⟨2, 16, 0, 0, [], 16⟩ : Vo) sp5 (putL [] kP (bytesN [2, 16])) (putL [] kP (bytesN [2, 16])) 100000 := hvs25
 refine WLr 4 [(29, .nilIface), (28, .slice A19 L21.length c20), (27, .agg #[.int .i64 0, .int .i64 0]), (23, .tuple #[.agg #[.int .i64 0, .int .i64 0], .slice A19 L21.length c20, .nilIface])] (fun _ => by kernel_rfl) ?_
 refine WL.newM hC34 (fun b => .pointer (some ⟨b, 0, none⟩)) (.cells #[.int .i64 0, .int .i64 0] 50) 3 (fun _ => by kernel_rfl) (fun g38 w39 hb42 hF40 hC41 => ?_)
 have hvs43 := vsAt_fr hvsN37 hF40 (by simp)
 refine WLs (c' := #[.int .i64 0, .int .i64 0]) hC41 0 50 g38 0 (.agg #[.int .i64 0, .int .i64 0]) (by kernel_rfl) rfl (by kernel_rfl) (fun w46 hF48 hC49 => ?_)
 have hvs50 := vsAt_fr hvs43 hF48 (hC41.apartM 0 0 rfl rfl)
 refine WLr 2 [(5, .nilIface), (4, .slice A19 L21.length c20)] (fun _ => by kernel_rfl) (WLd rfl (QXn (hK18 _ _ ?_)))
 refine WCs (fun K53 hK54 => ?_)
 refine WCg (WLr 2 [(32, .agg #[.int .i64 1, .int .i64 17]), (31, .pointer (some ⟨p6, 0, none⟩))] (fun _ => by kernel_rfl) ?_)
 refine WLc rfl rfl rfl rfl rfl (by kernel_rfl) (PrepVS_no FA23 p6 (⟨2, 16, 0, 0, [], 16⟩ : Vo) sp5 (putL [] kP (bytesN [2, 16])) (putL [] kP (bytesN [2, 16])) 100000 w46 hvs50 1 17 ⟨by decide, by decide⟩ (by decide +kernel)) ?_
 rintro _ w56 ⟨rfl, hF55⟩
 refine ⟨_, rfl, ?_⟩
 have hC57 := hC49.call hF55
 have hvs58 := vsAt_fr hvs50 hF55 (by simp)
 refine WLr 4 [(36, errV 35 (askedE (⟨2, 16, 0, 0, [], 16⟩ : Vo) 1 17)), (35, .slice none 0 0), (34, .agg #[.int .i64 0, .int .i64 0]), (30, .tuple #[.agg #[.int .i64 0, .int .i64 0], .slice none 0 0, errV 35 (askedE (⟨2, 16, 0, 0, [], 16⟩ : Vo) 1 17)])] (fun _ => by kernel_rfl) ?_
 refine WL.newM hC57 (fun b => .pointer (some ⟨b, 0, none⟩)) (.cells #[.int .i64 0, .int .i64 0] 50) 6 (fun _ => by kernel_rfl) (fun g61 w62 hb65 hF63 hC64 => ?_)
 have hvs66 := vsAt_fr hvs58 hF63 (by simp)
 refine WLs (c' := #[.int .i64 0, .int .i64 0]) hC64 1 50 g61 0 (.agg #[.int .i64 0, .int .i64 0]) (by kernel_rfl) rfl (by kernel_rfl) (fun w69 hF71 hC72 => ?_)
 have hvs73 := vsAt_fr hvs66 hF71 (hC64.apartM 0 1 rfl rfl)
 refine WLr 2 [(8, errV 35 (askedE (⟨2, 16, 0, 0, [], 16⟩ : Vo) 1 17)), (7, .slice none 0 0)] (fun _ => by kernel_rfl) (WLd rfl (QXn (hK54 _ _ ?_)))
 refine WCs (fun K76 hK77 => ?_)
 refine WCg (WLr 2 [(38, .agg #[.int .i64 2, .int .i64 16]), (37, .pointer (some ⟨p6, 0, none⟩))] (fun _ => by kernel_rfl) ?_)
 refine WLc rfl rfl rfl rfl rfl (by kernel_rfl) (health_ct 1 w69) ?_
 rintro _ w79 ⟨rfl, hF78⟩
 refine ⟨_, rfl, ?_⟩
 have hC80 := hC72.call hF78
 have hvs81 := vsAt_fr hvs73 hF78 (by simp)
 refine WL.newM hC80 (fun b => .slice (some ⟨b, 0, none⟩) 1 1) (.cells #[.int .i64 16, .int .i64 0, .int .i64 1, .int .i64 0, .int .i64 3, .int .u32 0, .int .i64 0, .int .i64 0, .slice none 0 0, .int .u32 167837697, .int .u32 0, .bool true] 61) 40 (fun _ => by kernel_rfl) (fun g84 w85 hb88 hF86 hC87 => ?_)
 have hvs89 := vsAt_fr hvs81 hF86 (by simp)
 refine WLc rfl rfl rfl rfl rfl (by kernel_rfl) (AccVS_yes FA23 p6 (⟨2, 16, 0, 0, [], 16⟩ : Vo) sp5 (putL [] kP (bytesN [2, 16])) (putL [] kP (bytesN [2, 16])) 100000 w85 hvs89 2 16 (some ⟨g84, 0, none⟩) 1 [(⟨⟨16, 0, 1, 0, 3, 0, 0, 0, [], 167837697, 0, true⟩, none, 0⟩ : Cmd)] ⟨by decide, by decide⟩ (Rd.blk (xs := [(⟨⟨16, 0, 1, 0, 3, 0, 0, 0, [], 167837697, 0, true⟩, none, 0⟩ : Cmd)]) (hC87.get 2 rfl) cellsC_len rfl) (fun m_ hm_ => by rw [List.mem_singleton] at hm_; subst hm_; exact health_at ⟨by decide, by decide⟩ _) (by decide) (by decide +kernel) (by decide +kernel) (by decide +kernel)) ?_
 rintro _ w96 ⟨FA92, rfl, hF93, hvs94, hsub95⟩
 have hC97 := hC87.callF 0 rfl hF93 hsub95 (vsAt_lt hvs94)
 refine ⟨_, rfl, ?_⟩
 have hvsN100 : vsAt w96 FA92 p6 (⟨2, 16, 2, 16, [⟨16, 0, 1, 0, 3, 0, 0, 0, [], 167837697, 0, true⟩], 16⟩ : Vo) sp5 (putL (putL (putL [] kP (bytesN [2, 16])) kP (bytesN [2, 16])) kV (bytesN [2, 16] ++ bytesL [⟨16, 0, 1, 0, 3, 0, 0, 0, [], 167837697, 0, true⟩])) (putL (putL (putL [] kP (bytesN [2, 16])) kP (bytesN [2, 16])) kV (bytesN [2, 16] ++ bytesL [⟨16, 0, 1, 0, 3, 0, 0, 0, [], 167837697, 0, true⟩])) 100000 := hvs94
 refine WLr 1 [(9, .nilIface)] (fun _ => by kernel_rfl) (WLd rfl (QXn (hK77 _ _ ?_)))
 refine WCs (fun K101 hK102 => ?_)
 refine WCg (WLr 2 [(44, .agg #[.int .i64 3, .int .i64 17]), (43, .pointer (some ⟨p6, 0, none⟩))] (fun _ => by kernel_rfl) ?_)
 refine WLc rfl rfl rfl rfl rfl (by kernel_rfl) (PrepVS_yes FA92 p6 (⟨2, 16, 2, 16, [⟨16, 0, 1, 0, 3, 0, 0, 0, [], 167837697, 0, true⟩], 16⟩ : Vo) sp5 (putL (putL (putL [] kP (bytesN [2, 16])) kP (bytesN [2, 16])) kV (bytesN [2, 16] ++ bytesL [⟨16, 0, 1, 0, 3, 0, 0, 0, [], 167837697, 0, true⟩])) (putL (putL (putL [] kP (bytesN [2, 16])) kP (bytesN [2, 16])) kV (bytesN [2, 16] ++ bytesL [⟨16, 0, 1, 0, 3, 0, 0, 0, [], 167837697, 0, true⟩])) 100000 w96 hvsN100 3 17 ⟨by decide, by decide⟩ (by decide +kernel) (by decide +kernel)) ?_
 rintro _ w117 ⟨A103, c104, L105, R106, FA107, rfl, hF108, hvs109, hsub110, hdj111, ho112, hli113, hvv114, hRg115, hgr116⟩
 have hC118 := callFLog hC97 0 rfl hF108 hsub110 (vsAt_lt hvs109) (own_ge ho112) (own_lt ho112) hRg115 hgr116 hdj111
 refine ⟨_, rfl, ?_⟩
 have ho121 := own_base (b' := 0) ho112 (fun _ _ => Nat.zero_le _)
 have hvvN_L105 : vals L105 = ([⟨16, 0, 1, 0, 3, 0, 0, 0, [], 167837697, 0, true⟩] : List CmdV) := hvv114
 have hll_L105 : L105.length = ([⟨16, 0, 1, 0, 3, 0, 0, 0, [], 167837697, 0, true⟩] : List CmdV).length := by rw [← vals_len, hvvN_L105]
 have hvsN123 : vsAt w117 FA107 p6 (⟨3, 17, 2, 16, [⟨16, 0, 1, 0, 3, 0, 0, 0, [], 167837697, 0, true⟩], 16⟩ : Vo) sp5 (putL (putL (putL (putL [] kP (bytesN [2, 16])) kP (bytesN [2, 16])) kV (bytesN [2, 16] ++ bytesL [⟨16, 0, 1, 0, 3, 0, 0, 0, [], 167837697, 0, true⟩])) kP (bytesN [3, 17])) (putL (putL (putL (putL [] kP (bytesN [2, 16])) kP (bytesN [2, 16])) kV (bytesN [2, 16] ++ bytesL [⟨16, 0, 1, 0, 3, 0, 0, 0, [], 167837697, 0, true⟩])) kP (bytesN [3, 17])) 100000 := hvs109
 refine WLr 4 [(48, .nilIface), (47, .slice A103 L105.length c104), (46, .agg #[.int .i64 2, .int .i64 16]), (42, .tuple #[.agg #[.int .i64 2, .int .i64 16], .slice A103 L105.length c104, .nilIface])] (fun _ => by kernel_rfl) ?_
 refine WL.newM hC118 (fun b => .pointer (some ⟨b, 0, none⟩)) (.cells #[.int .i64 0, .int .i64 0] 50) 10 (fun _ => by kernel_rfl) (fun g124 w125 hb128 hF126 hC127 => ?_)
 have ho132 := own_fr ho121 hF126 (by simp)
 refine WLs (c' := #[.int .i64 2, .int .i64 16]) hC127 3 50 g124 0 (.agg #[.int .i64 2, .int .i64 16]) (by kernel_rfl) rfl (by kernel_rfl) (fun w134 hF136 hC137 => ?_)
 have ho141 := own_fr ho132 hF136 (hC127.apartM 3 3 rfl rfl)
 refine WLr 2 [(12, .nilIface), (11, .slice A103 L105.length c104)] (fun _ => by kernel_rfl) (WLd rfl (QXn (hK102 _ _ ?_)))
 refine WCs (fun K143 hK144 => ?_)
 refine WCg (WLr 8 [(56, .bool ((L21.length : Int) == 0)), (55, .bool ((L21.length : Int) == 0)), (54, .bool ((L21.length : Int) == 0)), (53, .int .i64 (L21.length : Int)), (52, .slice A19 L21.length c20), (51, .bool true), (50, .bool true), (49, .nilIface)] (fun _ => by kernel_rfl) ?_)
 refine WL.know 56 (.bool ((L21.length : Int) == 0)) (.bool true) rfl (congrArg Value.bool (by simp [hll_L21])) ?_
 refine WLr 2 [(58, .iface 35 (.int .i64 8)), (57, errV 35 (askedE (⟨2, 16, 0, 0, [], 16⟩ : Vo) 1 17))] (fun _ => by kernel_rfl) ?_
 have hr145 : ∀ w_, Sem.run Try.prog (do eqGuard .eql 27 (Operand.tmp 57) (Operand.tmp 58) (errV 35 (askedE (⟨2, 16, 0, 0, [], 16⟩ : Vo) 1 17)) (.iface 35 (.int .i64 8)); binOp .eql 27 (errV 35 (askedE (⟨2, 16, 0, 0, [], 16⟩ : Vo) 1 17)) (.iface 35 (.int .i64 8))) w_ = .ok (.bool (decide ((askedE (⟨2, 16, 0, 0, [], 16⟩ : Vo) 1 17) = (8 : Int)))) w_ := fun w_ => (err_eqlc _ _ (askedE (⟨2, 16, 0, 0, [], 16⟩ : Vo) 1 17) 8 (by decide) _)
 refine WL.sem (do eqGuard .eql 27 (Operand.tmp 57) (Operand.tmp 58) (errV 35 (askedE (⟨2, 16, 0, 0, [], 16⟩ : Vo) 1 17)) (.iface 35 (.int .i64 8)); binOp .eql 27 (errV 35 (askedE (⟨2, 16, 0, 0, [], 16⟩ : Vo) 1 17)) (.iface 35 (.int .i64 8))) 59 (.bool (decide ((askedE (⟨2, 16, 0, 0, [], 16⟩ : Vo) 1 17) = (8 : Int)))) (by kernel_rfl) (hr145 _) ?_
 refine WLr 2 [(61, .bool (decide ((askedE (⟨2, 16, 0, 0, [], 16⟩ : Vo) 1 17) = (8 : Int)))), (60, .bool (decide ((askedE (⟨2, 16, 0, 0, [], 16⟩ : Vo) 1 17) = (8 : Int))))] (fun _ => by kernel_rfl) ?_
 refine WL.know 61 (.bool (decide ((askedE (⟨2, 16, 0, 0, [], 16⟩ : Vo) 1 17) = (8 : Int)))) (.bool true) rfl (congrArg Value.bool (by decide +kernel)) ?_
 refine WLr 8 [(69, .bool true), (68, .bool true), (67, .bool true), (66, .nilIface), (65, .bool true), (64, .bool true), (63, .bool true), (62, .nilIface)] (fun _ => by kernel_rfl) ?_
 refine WL.load 50 (.pointer (some ⟨g124, 0, none⟩)) (.agg #[.int .i64 2, .int .i64 16]) 70 (by kernel_rfl) (run_ld (hC137.get 3 rfl) rfl) ?_
 refine WLr 1 [(71, .agg #[.int .i64 2, .int .i64 16])] (fun _ => by kernel_rfl) ?_
 have hr146 : ∀ w_, Sem.run Try.prog (do eqGuard .eql 50 (Operand.tmp 70) (Operand.tmp 71) (.agg #[.int .i64 2, .int .i64 16]) (.agg #[.int .i64 2, .int .i64 16]); binOp .eql 50 (.agg #[.int .i64 2, .int .i64 16]) (.agg #[.int .i64 2, .int .i64 16])) w_ = .ok (.bool ((2 : Int) == (2 : Int) && ((16 : Int) == (16 : Int) && true))) w_ := fun w_ => (run_eql_S (by kernel_rfl))
 refine WL.sem (do eqGuard .eql 50 (Operand.tmp 70) (Operand.tmp 71) (.agg #[.int .i64 2, .int .i64 16]) (.agg #[.int .i64 2, .int .i64 16]); binOp .eql 50 (.agg #[.int .i64 2, .int .i64 16]) (.agg #[.int .i64 2, .int .i64 16])) 72 (.bool ((2 : Int) == (2 : Int) && ((16 : Int) == (16 : Int) && true))) (by kernel_rfl) (hr146 _) ?_
 refine WLr 2 [(74, .bool ((2 : Int) == (2 : Int) && ((16 : Int) == (16 : Int) && true))), (73, .bool ((2 : Int) == (2 : Int) && ((16 : Int) == (16 : Int) && true)))] (fun _ => by kernel_rfl) ?_
 refine WL.know 74 (.bool ((2 : Int) == (2 : Int) && ((16 : Int) == (16 : Int) && true))) (.bool true) rfl (congrArg Value.bool (by decide +kernel)) ?_
 refine WLr 5 [(79, .bool ((L105.length : Int) == 1)), (78, .bool ((L105.length : Int) == 1)), (77, .bool ((L105.length : Int) == 1)), (76, .int .i64 (L105.length : Int)), (75, .slice A103 L105.length c104)] (fun _ => by kernel_rfl) ?_
 refine WL.know 79 (.bool ((L105.length : Int) == 1)) (.bool true) rfl (congrArg Value.bool (by simp [hll_L105])) ?_
 refine WLr 1 [(80, .slice A103 L105.length c104)] (fun _ => by kernel_rfl) ?_
 have hlz_ := hll_L105
 simp only [List.length_cons, List.length_nil] at hlz_
 have hn151 := own_count cellsC_len (by decide) ho141
 obtain ⟨e147, he148⟩ := get_some (xs := L105) (i := 0) (by omega)
 obtain ⟨b149, hA150⟩ := own_addr (by decide) cellsC_len ho141 he148
 refine WLi A103 L105.length c104 81 .i64 0 b149 0 0 12 (by kernel_rfl) hA150 (by omega) (by omega) 0 (by first | (simp; done) | omega) ?_
 refine WLr 1 [(82, .pointer (some ⟨b149, 2, none⟩))] (fun _ => by kernel_rfl) ?_
 refine WL.load 3 (.pointer (some ⟨b149, 2, none⟩)) (.int .i64 e147.v.seq) 83 (by kernel_rfl) (run_load1 rfl (by simpa [Nat.add_assoc] using Rd.cell (own_rd ho141 cellsC_len (by decide)) hA150 he148 2 _ rfl)) ?_
 refine WLr 3 [(0, .bool (e147.v.seq == 1)), (85, .bool (e147.v.seq == 1)), (84, .bool (e147.v.seq == 1))] (fun _ => by kernel_rfl) (WLd rfl (QXn (hK144 _ _ ?_)))
 refine WC.ret ?_
 refine (hret _ _ _ rfl ?_).1
 exact ⟨congrArg (fun b_ => Ending.returned (Value.bool b_)) (show ((e147.v.seq == 1)) = true from by have z_ := vals_get he148; rw [hvvN_L105] at z_; simp at z_; simp [← z_]), hC137.fr⟩

end Go.Proofs.Ytjacpjdikhlcoaa
