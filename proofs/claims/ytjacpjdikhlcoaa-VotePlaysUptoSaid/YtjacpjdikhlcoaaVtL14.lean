/- Contracts of functions of the program, each proved by a walk through its code; conditions stand in the statements. -/
import Derived.Test.YtjacpjdikhlcoaaVtK14
namespace Go.Proofs.Ytjacpjdikhlcoaa
set_option linter.unusedSimpArgs false
set_option linter.unusedVariables false
set_option linter.unusedSectionVars false
open Go Go.RowKit Go.Tw
set_option linter.unusedVariables false
set_option maxRecDepth 20000
theorem Prepare_no (FV : List Nat) (p : Nat) (V : Vo) (sp : Nat) (n d : Int) (w : World) (hv : voAt w FV p V sp) (hd : isI64 d) (hE : askedE V n d ≠ 0) : Calls Try.prog 24 #[.pointer (some ⟨p, 0, none⟩), .agg #[.int .i64 n, .int .i64 d]] w fun e w' => e = .returned (.tuple #[.agg #[.int .i64 0, .int .i64 0], .slice none 0 0, errV 35 (askedE V n d)]) ∧ Fr w w' [] := by
 refine enterD (n := 41) Try.func24 rfl rfl (Nat.le_of_ble_eq_true rfl) ?_
 intro Q0 hN hret hret'
 have hv0 := hv
 obtain ⟨va, vc, vL, vR, hp_, hrd_, hin_, hvv_, hvl_, rfl, hnp_, hlt_, hw1_, hw2_, hw3_, hw4_, hw5_⟩ := hv
 have hC := Cx.startMs w [(p, .cells #[.int .i64 V.pn, .int .i64 V.pd, .int .i64 V.an, .int .i64 V.ad, .slice va vL.length vc, .pointer (some ⟨sp, 0, none⟩), .int .i64 V.node] 112)] (by simp) (by simp [hp_])
 refine WCs (fun K1 hK2 => ?_)
 refine WCg ?_
 refine WL.newM hC (fun b => .pointer (some ⟨b, 0, none⟩)) (.cells #[.int .i64 n, .int .i64 d] 50) 3 (fun _ => by kernel_rfl) (fun g3 w4 hb7 hF5 hC6 => ?_)
 have hf8 := (Fr.refl w []).trans hF5 (by simp)
 refine WL.newM hC6 (fun b => .pointer (some ⟨b, 0, none⟩)) (.cells #[.int .i64 0, .int .i64 0] 50) 4 (fun _ => by kernel_rfl) (fun g9 w10 hb13 hF11 hC12 => ?_)
 have hf14 := hf8.trans hF11 (by simp)
 refine WLr 2 [(6, .nilIface), (5, .slice none 0 0)] (fun _ => by kernel_rfl) (WLd rfl (QXn (hK2 _ _ ?_)))
 refine WCs (fun K15 hK16 => ?_)
 refine WCs (fun K17 hK18 => ?_)
 refine WCg (WLr 1 [(10, .pointer (some ⟨p, 0, none⟩))] (fun _ => by kernel_rfl) ?_)
 refine WL.load 50 (.pointer (some ⟨g3, 0, none⟩)) (.agg #[.int .i64 n, .int .i64 d]) 11 (by kernel_rfl) (run_ld (hC12.get 1 rfl) rfl) ?_
 refine WLc rfl rfl rfl rfl rfl (by kernel_rfl) (asked_ct _ p V sp n d w10 (voAt_fr hv0 hf14 (fun _ _ => by simp)) hd) ?_
 rintro _ w20 ⟨rfl, hF19⟩
 refine ⟨_, rfl, ?_⟩
 have hC21 := hC12.call hF19
 have hf22 := hf14.trans hF19 (by simp)
 refine WLr 1 [(7, errV 35 (askedE V n d))] (fun _ => by kernel_rfl) (WLd rfl (QXn (hK18 _ _ ?_)))
 refine WCs (fun K23 hK24 => ?_)
 refine WCg (WLr 1 [(13, errV 35 (askedE V n d))] (fun _ => by kernel_rfl) ?_)
 have hr25 : ∀ w_, Sem.run Try.prog (do eqGuard .neq 27 (Operand.tmp 13) (Operand.const (.nilIface)) (errV 35 (askedE V n d)) (.nilIface); binOp .neq 27 (errV 35 (askedE V n d)) (.nilIface)) w_ = .ok (.bool (!(decide (askedE V n d = 0)))) w_ := fun w_ => (err_neq _ (askedE V n d) (decide (askedE V n d = 0)) (by rfl) _)
 refine WL.sem (do eqGuard .neq 27 (Operand.tmp 13) (Operand.const (.nilIface)) (errV 35 (askedE V n d)) (.nilIface); binOp .neq 27 (errV 35 (askedE V n d)) (.nilIface)) 14 (.bool (!(decide (askedE V n d = 0)))) (by kernel_rfl) (hr25 _) ?_
 refine WLd rfl (QXn (hK24 _ _ ?_))
 refine WC.know 14 (.bool (!(decide (askedE V n d = 0)))) (.bool true) rfl (congrArg Value.bool (by simp [hE])) ?_
 refine WCt rfl ?_
 refine WCs (fun K26 hK27 => ?_)
 refine WCg (WLr 2 [(16, errV 35 (askedE V n d)), (15, .agg #[.int .i64 0, .int .i64 0])] (fun _ => by kernel_rfl) ?_)
 refine WLs (c' := #[.int .i64 0, .int .i64 0]) hC21 2 50 g9 0 (.agg #[.int .i64 0, .int .i64 0]) (by kernel_rfl) rfl (by kernel_rfl) (fun w28 hF30 hC31 => ?_)
 refine WLr 2 [(6, errV 35 (askedE V n d)), (5, .slice none 0 0)] (fun _ => by kernel_rfl) (WLd rfl (QXn (hK27 _ _ ?_)))
 refine WC.ret ?_
 refine QXr ?_
 refine (hret' _ _ (.tuple #[.agg #[.int .i64 0, .int .i64 0], .slice none 0 0, errV 35 (askedE V n d)]) (fun a ha => ?_) ?_).1
 ·
  exact res_run ha ((ResR.cell rfl (run_ld (hC31.get 2 rfl) rfl) (ResR.tmp rfl (ResR.tmp rfl ResR.nil)))) rfl
 exact ⟨rfl, (hC31.fr.shrink (by intro x_ hx_; simp at hx_; subst hx_; exact (hC31.get 0 rfl).trans hp_.symm))⟩

set_option maxHeartbeats 1000000 in
theorem Prepare_yes (FV : List Nat) (p : Nat) (V : Vo) (sp : Nat) (n d : Int) (F : List Nat) (N Y : Ct) (size : Int) (w : World) (hv : voAt w FV p V sp) (ht : stAt w F sp N Y size) (hdis : ∀ x ∈ FV, x ∉ F) (hd : isI64 d) (hE : askedE V n d = 0) (hroom : putE N size kP 16 = 0) : Calls Try.prog 24 #[.pointer (some ⟨p, 0, none⟩), .agg #[.int .i64 n, .int .i64 d]] w fun e w' => ∃ (A2 : Option Addr) (c2 : Nat) (L2 : List Cmd) (R2 F2 : List Nat), e = .returned (.tuple #[.agg #[.int .i64 V.an, .int .i64 V.ad], .slice A2 L2.length c2, .nilIface]) ∧ Fr w w' (p :: F) ∧ voAt w' FV p ⟨n, d, V.an, V.ad, V.log, V.node⟩ sp ∧ stAt w' F2 sp (putL N kP (bytesN [n, d])) (putL N kP (bytesN [n, d])) size ∧ (∀ x ∈ F2, x ∈ F ∨ w.heap.size ≤ x) ∧ w'.ownsRow w.heap.size 61 12 (.slice A2 L2.length c2) L2.length (L2.flatMap cellsC) ∧ logIn w' R2 L2 ∧ vals L2 = V.log ∧ (∀ x ∈ R2, w.heap.size ≤ x ∧ x < w'.heap.size) ∧ (∀ x ∈ blk (.slice A2 L2.length c2), x ∉ R2) ∧ (∀ x ∈ F2, x ∉ blk (.slice A2 L2.length c2) ++ R2) := by
 refine enterD (n := 41) Try.func24 rfl rfl (Nat.le_of_ble_eq_true rfl) ?_
 intro Q0 hN hret hret'
 have hv0 := hv
 obtain ⟨va, vc, vL, vR, hp_, hrd_, hin_, hvv_, hvl_, rfl, hnp_, hlt_, hw1_, hw2_, hw3_, hw4_, hw5_⟩ := hv
 have hpF_ : p ∉ F := hdis p (by simp)
 have hbA_ : ∀ b off, va = some ⟨b, off, none⟩ → b ∉ p :: F := fun b off e h_ => (List.mem_cons.1 h_).elim (fun q_ => hnp_ (q_ ▸ List.mem_append_left _ (blk_in e))) (fun q_ => hdis b (List.mem_cons_of_mem _ (List.mem_append_left _ (blk_in e))) q_)
 have hbR_ : ∀ x ∈ vR, x ∉ p :: F := fun x hx h_ => (List.mem_cons.1 h_).elim (fun q_ => hnp_ (q_ ▸ List.mem_append_right _ hx)) (fun q_ => hdis x (List.mem_cons_of_mem _ (List.mem_append_right _ hx)) q_)
 have hC := Cx.openR hp_ (stAt_lt ht) hpF_
 refine WCs (fun K1 hK2 => ?_)
 refine WCg ?_
 refine WL.newM hC (fun b => .pointer (some ⟨b, 0, none⟩)) (.cells #[.int .i64 n, .int .i64 d] 50) 3 (fun _ => by kernel_rfl) (fun g3 w4 hb7 hF5 hC6 => ?_)
 have hf8 := stAt_fr ht hF5 (by simp)
 have hf9 := (Fr.refl w []).trans hF5 (by simp)
 refine WL.newM hC6 (fun b => .pointer (some ⟨b, 0, none⟩)) (.cells #[.int .i64 0, .int .i64 0] 50) 4 (fun _ => by kernel_rfl) (fun g10 w11 hb14 hF12 hC13 => ?_)
 have hf15 := stAt_fr hf8 hF12 (by simp)
 have hf16 := hf9.trans hF12 (by simp)
 refine WLr 2 [(6, .nilIface), (5, .slice none 0 0)] (fun _ => by kernel_rfl) (WLd rfl (QXn (hK2 _ _ ?_)))
 refine WCs (fun K17 hK18 => ?_)
 refine WCs (fun K19 hK20 => ?_)
 refine WCg (WLr 1 [(10, .pointer (some ⟨p, 0, none⟩))] (fun _ => by kernel_rfl) ?_)
 refine WL.load 50 (.pointer (some ⟨g3, 0, none⟩)) (.agg #[.int .i64 n, .int .i64 d]) 11 (by kernel_rfl) (run_ld (hC13.get 1 rfl) rfl) ?_
 refine WLc rfl rfl rfl rfl rfl (by kernel_rfl) (asked_ct _ p V sp n d w11 (voAt_fr hv0 hf16 (fun _ _ => by simp)) hd) ?_
 rintro _ w22 ⟨rfl, hF21⟩
 refine ⟨_, rfl, ?_⟩
 have hC23 := hC13.call hF21
 have hf24 := stAt_fr hf15 hF21 (by simp)
 have hf25 := hf16.trans hF21 (by simp)
 refine WLr 1 [(7, errV 35 (askedE V n d))] (fun _ => by kernel_rfl) (WLd rfl (QXn (hK20 _ _ ?_)))
 refine WCs (fun K26 hK27 => ?_)
 refine WCg (WLr 1 [(13, errV 35 (askedE V n d))] (fun _ => by kernel_rfl) ?_)
 have hr28 : ∀ w_, Sem.run Try.prog (do eqGuard .neq 27 (Operand.tmp 13) (Operand.const (.nilIface)) (errV 35 (askedE V n d)) (.nilIface); binOp .neq 27 (errV 35 (askedE V n d)) (.nilIface)) w_ = .ok (.bool (!(decide (askedE V n d = 0)))) w_ := fun w_ => (err_neq _ (askedE V n d) (decide (askedE V n d = 0)) (by rfl) _)
 refine WL.sem (do eqGuard .neq 27 (Operand.tmp 13) (Operand.const (.nilIface)) (errV 35 (askedE V n d)) (.nilIface); binOp .neq 27 (errV 35 (askedE V n d)) (.nilIface)) 14 (.bool (!(decide (askedE V n d = 0)))) (by kernel_rfl) (hr28 _) ?_
 refine WLd rfl (QXn (hK27 _ _ ?_))
 refine WC.know 14 (.bool (!(decide (askedE V n d = 0)))) (.bool false) rfl (congrArg Value.bool (by simp [hE])) ?_
 refine WCf rfl (WC.skip (QXn (hK18 _ _ ?_)))
 refine WCs (fun K29 hK30 => ?_)
 refine WCg (WLr 3 [(19, .pointer (some ⟨p, 0, none⟩)), (18, .pointer (some ⟨p, 0, none⟩)), (17, .pointer (some ⟨p, 0, none⟩))] (fun _ => by kernel_rfl) ?_)
 refine WL.load 110 (.pointer (some ⟨p, 0, none⟩)) (.agg #[.int .i64 V.pn, .int .i64 V.pd, .int .i64 V.an, .int .i64 V.ad, .slice va vL.length vc]) 20 (by kernel_rfl) (run_ld (hC23.get 0 rfl) rfl) ?_
 refine WL.newM hC23 (fun b => .pointer (some ⟨b, 0, none⟩)) (.cells #[.int .i64 0, .int .i64 0, .int .i64 0, .int .i64 0, .slice none 0 0] 110) 8 (fun _ => by kernel_rfl) (fun g31 w32 hb35 hF33 hC34 => ?_)
 have hf36 := stAt_fr hf24 hF33 (by simp)
 have hf37 := hf25.trans hF33 (by simp)
 refine WLs (c' := #[.int .i64 V.pn, .int .i64 V.pd, .int .i64 V.an, .int .i64 V.ad, .slice va vL.length vc]) hC34 3 110 g31 0 (.agg #[.int .i64 V.pn, .int .i64 V.pd, .int .i64 V.an, .int .i64 V.ad, .slice va vL.length vc]) (by kernel_rfl) rfl (by kernel_rfl) (fun w38 hF40 hC41 => ?_)
 have hf42 := stAt_fr hf36 hF40 (hC34.apartM 0 3 rfl rfl)
 refine WLd rfl (QXn (hK30 _ _ ?_))
 refine WCs (fun K43 hK44 => ?_)
 refine WCg ?_
 refine WL.load 50 (.pointer (some ⟨g3, 0, none⟩)) (.agg #[.int .i64 n, .int .i64 d]) 21 (by kernel_rfl) (run_ld (hC41.get 1 rfl) rfl) ?_
 refine WLr 1 [(22, .pointer (some ⟨g31, 0, none⟩))] (fun _ => by kernel_rfl) ?_
 refine WLs (c' := #[.int .i64 n, .int .i64 d, .int .i64 V.an, .int .i64 V.ad, .slice va vL.length vc]) hC41 3 50 g31 0 (.agg #[.int .i64 n, .int .i64 d]) (by kernel_rfl) rfl (by kernel_rfl) (fun w45 hF47 hC48 => ?_)
 have hf49 := stAt_fr hf42 hF47 (hC41.apartM 0 3 rfl rfl)
 refine WLd rfl (QXn (hK44 _ _ ?_))
 refine WCs (fun K50 hK51 => ?_)
 refine WCs (fun K52 hK53 => ?_)
 refine WCg (WLr 1 [(23, .pointer (some ⟨p, 0, none⟩))] (fun _ => by kernel_rfl) ?_)
 refine WL.load 110 (.pointer (some ⟨g31, 0, none⟩)) (.agg #[.int .i64 n, .int .i64 d, .int .i64 V.an, .int .i64 V.ad, .slice va vL.length vc]) 24 (by kernel_rfl) (run_ld (hC48.get 3 rfl) rfl) ?_
 have s0_ := hC48.fr.size
 refine WLc rfl rfl rfl rfl rfl (by kernel_rfl) (keep0_yes p sp F N Y size V.pn V.pd V.an V.ad V.node n d V.an V.ad va vL.length vc va vL.length vc w45 (hC48.get 0 rfl) hf49 (hC48.notin 0 0 rfl rfl) hroom) ?_
 rintro _ w55 ⟨F54, rfl, hF56, hT57, hs58, hn59, hp60⟩
 have hC61 := hC48.callMF 0 0 rfl rfl hF56 hp60 hs58 (stAt_lt hT57)
 refine ⟨_, rfl, ?_⟩
 refine WLr 1 [(9, .nilIface)] (fun _ => by kernel_rfl) (WLd rfl (QXn (hK53 _ _ ?_)))
 refine WCs (fun K62 hK63 => ?_)
 refine WCg (WLr 2 [(27, .bool false), (26, .nilIface)] (fun _ => by kernel_rfl) (WLd rfl (QXn (hK63 _ _ ?_))))
 refine WCf rfl (WC.skip (QXn (hK51 _ _ ?_)))
 refine WCs (fun K64 hK65 => ?_)
 refine WC.drawC hC61 [g10] (by kernel_rfl) (fun w66 hF67 hC68 hS69 => ?_)
 have hf70 := stAt_fr hT57 hF67 (by simp)
 refine WDp (NPt hN) 0 30 (.pointer (some ⟨p, 0, none⟩)) (by kernel_rfl) (fun _ => by kernel_rfl) hS69 ?_
 refine WDp (NPt hN) 1 31 (.pointer (some ⟨p, 0, none⟩)) (by kernel_rfl) (fun _ => by kernel_rfl) hS69 ?_
 refine WDp (NPt hN) 2 32 (.pointer (some ⟨p, 0, none⟩)) (by kernel_rfl) (fun _ => by kernel_rfl) hS69 ?_
 refine WDp (NPt hN) 3 33 (.pointer (some ⟨p, 2, none⟩)) (by kernel_rfl) (fun _ => by kernel_rfl) hS69 ?_
 refine WDp (NPt hN) 5 35 (.pointer (some ⟨p, 0, none⟩)) (by kernel_rfl) (fun _ => by kernel_rfl) hS69 ?_
 refine WDp (NPt hN) 6 36 (.pointer (some ⟨p, 0, none⟩)) (by kernel_rfl) (fun _ => by kernel_rfl) hS69 ?_
 refine WDp (NPt hN) 7 37 (.pointer (some ⟨p, 0, none⟩)) (by kernel_rfl) (fun _ => by kernel_rfl) hS69 ?_
 refine WDp (NPt hN) 8 38 (.pointer (some ⟨p, 4, none⟩)) (by kernel_rfl) (fun _ => by kernel_rfl) hS69 ?_
 refine WDl (NPt hN) 4 50 (.pointer (some ⟨p, 2, none⟩)) (.agg #[.int .i64 V.an, .int .i64 V.ad]) 34 (by kernel_rfl) (by kernel_rfl) (fun _ hS_ => run_ld (Fr.has hS_ (hC68.get 0 rfl) (by simpa using hC68.ne 0 2 rfl rfl (by decide))) rfl) hS69 ?_
 refine WD.sem 9 (Instr.loadAt 25 (.pointer (some ⟨p, 4, none⟩))) 39 (.slice va vL.length vc) (by kernel_rfl) (by kernel_rfl) (run_ld (hC68.get 0 rfl) rfl) hS69 ?_
 have s1_ := hC68.fr.size
 refine WD.call 10 (by kernel_rfl) rfl rfl rfl rfl rfl (by kernel_rfl) (clone_n va vL.length vc vL w66 (hrd_.frN hC68.fr hbA_) rfl (fun m_ h_ => (hin_.at_ m_ h_).fr hC68.fr (fun x_ hx_ => hbR_ x_ (hin_.sub m_ h_ x_ hx_))) hvl_) ?_
 rintro _ w76 ⟨A71, c72, L73, R74, rfl, hF75, ho79, hli80, hvv81, hRg82, hdd83⟩
 have hC77 := callNN hC68 hF75 (own_ge ho79) (own_lt ho79) (fun x_ h_ => (hRg82 x_ h_).1) (fun x_ h_ => (hRg82 x_ h_).2) hdd83
 have ho84 := own_base (b' := 0) ho79 (fun _ _ => Nat.zero_le _)
 have hS86 := hS69.trans hF75 (by simp)
 refine ⟨_, rfl, hS86, ?_⟩
 have hf87 := stAt_fr hf70 hF75 (by simp)
 obtain ⟨w89, hr90, hF91, hC92⟩ := sto_run (c' := #[.int .i64 V.an, .int .i64 V.ad]) Try.prog hC77 2 50 g10 0 (.agg #[.int .i64 V.an, .int .i64 V.ad]) rfl (by kernel_rfl)
 have hS93 := hS86.trans hF91 (by first | (simp; done) | (simp [*]; done) | (have q_ := hS86.size; simp; omega))
 refine WD.semU 11 (Instr.storeAt 50 (.pointer (some ⟨g10, 0, none⟩)) (.agg #[.int .i64 V.an, .int .i64 V.ad])) (by kernel_rfl) (by kernel_rfl) hr90 hS93 ?_
 have hf94 := stAt_fr hf87 hF91 (hC77.apartM 0 2 rfl rfl)
 have ho95 := own_fr ho84 hF91 (hC77.apartM 1 2 rfl rfl)
 have hl96 := logIn.fr hli80 hF91 (hC77.apartM 2 2 rfl rfl)
 refine WDp (NPt hN) 12 5 (.slice A71 L73.length c72) (by kernel_rfl) (fun _ => by kernel_rfl) hS93 ?_
 refine WDp (NPt hN) 13 6 (.nilIface) (by kernel_rfl) (fun _ => by kernel_rfl) hS93 ?_
 refine WD.done (by kernel_rfl) ?_
 refine QXn (hK65 _ _ ?_)
 refine WC.ret ?_
 refine (hret' _ _ (.tuple #[.agg #[.int .i64 V.an, .int .i64 V.ad], .slice A71 L73.length c72, .nilIface]) (fun a ha => ?_) ?_).1
 ·
  exact res_run ha ((ResR.cell rfl (run_ld (hC92.get 2 rfl) rfl) (ResR.tmp rfl (ResR.tmp rfl ResR.nil)))) rfl
 clear hN hret hret' hK65 hK63 hK53 hK51 hK44 hK30 hK27 hK20 hK18 hK2
 have hg_ : goodBal n d = true := by
  unfold askedE at hE
  cases h_ : goodBal n d
  ·
   rw [h_] at hE; simp at hE
  ·
   rfl
 have hfr_ := hC92.fr
 exact ⟨A71, c72, L73, R74, F54, rfl, hfr_, ⟨va, vc, vL, vR, hC92.get 0 rfl, hrd_.frN hC92.fr hbA_, hin_.fr hC92.fr hbR_, hvv_, hvl_, rfl, hnp_, (fun x_ hx_ => Nat.lt_of_lt_of_le (hlt_ x_ hx_) hC92.fr.size), (goodBal_i64 hg_).1, (goodBal_i64 hg_).2, hw3_, hw4_, hw5_⟩, hf94, (fun x_ h_ => (hs58 x_ h_).imp id (fun z_ => Nat.le_trans s0_ z_)), own_base ho95 (fun x_ h_ => Nat.le_trans s1_ (own_ge ho79 x_ h_)), hl96, hvv81.trans hvv_, (fun x_ h_ => ⟨Nat.le_trans s1_ (hRg82 x_ h_).1, hC92.ltF 2 rfl x_ h_⟩), hdd83, (fun x_ h_ h2_ => (List.mem_append.1 h2_).elim (hC92.disj 0 1 rfl rfl (by decide) x_ h_) (hC92.disj 0 2 rfl rfl (by decide) x_ h_))⟩

theorem totE_vals : ∀ {a b : List Cmd}, vals a = vals b → totE a = totE b
  | [], [], _ => rfl
  | [], _ :: _, h => by simp [vals] at h
  | _ :: _, [], h => by simp [vals] at h
  | x :: a, y :: b, h => by
    simp only [vals, List.map_cons, List.cons.injEq] at h
    have := totE_vals (a := a) (b := b) h.2
    simp only [totE, List.map_cons, List.sum_cons, h.1] at this ⊢
    omega
theorem Accept_no (FV : List Nat) (p : Nat) (V : Vo) (sp : Nat) (n d : Int) (A : Option Addr) (c : Nat) (L : List Cmd)  (w : World) (hv : voAt w FV p V sp) (hd : isI64 d) (hr : Rd w 12 cellsC A L) (hL : ∀ m ∈ L, cmdAt w m) (hE : acceptE V n d (vals L) ≠ 0) : Calls Try.prog 22 #[.pointer (some ⟨p, 0, none⟩), .agg #[.int .i64 n, .int .i64 d], .slice A L.length c] w fun e w' => e = .returned (errV 35 (acceptE V n d (vals L))) ∧ Fr w w' [] := by
 refine enterD (n := 34) Try.func22 rfl rfl (Nat.le_of_ble_eq_true rfl) ?_
 intro Q0 hN hret hret'
 have hv0 := hv
 obtain ⟨va, vc, vL, vR, hp_, hrd_, hin_, hvv_, hvl_, rfl, hnp_, hlt_, hw1_, hw2_, hw3_, hw4_, hw5_⟩ := hv
 have hC := Cx.startMs w [(p, .cells #[.int .i64 V.pn, .int .i64 V.pd, .int .i64 V.an, .int .i64 V.ad, .slice va vL.length vc, .pointer (some ⟨sp, 0, none⟩), .int .i64 V.node] 112)] (by simp) (by simp [hp_])
 refine WCs (fun K1 hK2 => ?_)
 refine WCg ?_
 refine WL.newM hC (fun b => .pointer (some ⟨b, 0, none⟩)) (.cells #[.int .i64 n, .int .i64 d] 50) 4 (fun _ => by kernel_rfl) (fun g3 w4 hb7 hF5 hC6 => ?_)
 have hf8 := (Fr.refl w []).trans hF5 (by simp)
 refine WLr 1 [(6, .nilIface)] (fun _ => by kernel_rfl) (WLd rfl (QXn (hK2 _ _ ?_)))
 refine WCs (fun K9 hK10 => ?_)
 refine WCs (fun K11 hK12 => ?_)
 refine WCg (WLr 3 [(10, .bool false), (9, .bool false), (8, .pointer (some ⟨p, 0, none⟩))] (fun _ => by kernel_rfl) ?_)
 refine WL.load 50 (.pointer (some ⟨g3, 0, none⟩)) (.agg #[.int .i64 n, .int .i64 d]) 11 (by kernel_rfl) (run_ld (hC6.get 1 rfl) rfl) ?_
 refine WLc rfl rfl rfl rfl rfl (by kernel_rfl) (goodBallot_ct n d w4 hd) ?_
 rintro _ w14 ⟨rfl, hF13⟩
 refine ⟨_, rfl, ?_⟩
 have hC15 := hC6.call hF13
 have hf16 := hf8.trans hF13 (by simp)
 refine WLr 3 [(15, .bool (!(goodBal n d))), (14, .bool (!(goodBal n d))), (13, .bool (!(goodBal n d)))] (fun _ => by kernel_rfl) ?_
 refine WLa 15 (!(goodBal n d)) rfl (fun t17b => ?_) (fun t17b => ?_)
 ·
  have t17 : (goodBal n d) = false := by first | (simpa only [Bool.not_eq_true', Bool.not_eq_false'] using t17b) | simpa using t17b
  refine WLr 4 [(19, .bool true), (18, undef), (17, undef), (16, undef)] (fun _ => by kernel_rfl) (WLd rfl (QXn (hK12 _ _ ?_)))
  refine WCt rfl ?_
  refine WCs (fun K18 hK19 => ?_)
  refine WCg (WLr 2 [(6, .iface 35 (.int .i64 9)), (20, .iface 35 (.int .i64 9))] (fun _ => by kernel_rfl) (WLd rfl (QXn (hK19 _ _ ?_))))
  refine WC.ret ?_
  refine QXr ?_
  refine (hret _ _ _ rfl ?_).1
  clear hN hret hret' hK19 hK12 hK10 hK2
  have z_ : goodBal n d = false := (by simpa using t17b)
  unfold acceptE
  rw [if_pos (.inl z_)]
  exact ⟨rfl, hf16⟩
 ·
  have t17 : (goodBal n d) = true := by first | (simpa only [Bool.not_eq_true', Bool.not_eq_false'] using t17b) | simpa using t17b
  refine WLr 1 [(16, .slice A L.length c)] (fun _ => by kernel_rfl) ?_
  refine WLc rfl rfl rfl rfl rfl (by kernel_rfl) (CheckLog_n A L.length c L w14 (Rd.fr hr hf16) rfl (fun m_ h_ => cmdAt.fr0 (hL m_ h_) hf16)) ?_
  rintro _ w21 ⟨rfl, hF20⟩
  refine ⟨_, rfl, ?_⟩
  have hC22 := hC15.call hF20
  have hf23 := hf16.trans hF20 (by simp)
  have hr24 : ∀ w_, Sem.run Try.prog (do eqGuard .neq 27 (Operand.tmp 17) (Operand.const (.nilIface)) (errV 35 (if goodL (vals L) then 0 else 9)) (.nilIface); binOp .neq 27 (errV 35 (if goodL (vals L) then 0 else 9)) (.nilIface)) w_ = .ok (.bool (!(goodL (vals L)))) w_ := fun w_ => (err_neq _ (if goodL (vals L) then 0 else 9) (goodL (vals L)) (by cases goodL (vals L) <;> rfl) _)
  refine WL.sem (do eqGuard .neq 27 (Operand.tmp 17) (Operand.const (.nilIface)) (errV 35 (if goodL (vals L) then 0 else 9)) (.nilIface); binOp .neq 27 (errV 35 (if goodL (vals L) then 0 else 9)) (.nilIface)) 18 (.bool (!(goodL (vals L)))) (by kernel_rfl) (hr24 _) ?_
  refine WLr 1 [(19, .bool (!(goodL (vals L))))] (fun _ => by kernel_rfl) (WLd rfl (QXn (hK12 _ _ ?_)))
  refine WCa 19 (!(goodL (vals L))) rfl (fun t25b => ?_) (fun t25b => ?_)
  ·
   have t25 : (goodL (vals L)) = false := by first | (simpa only [Bool.not_eq_true', Bool.not_eq_false'] using t25b) | simpa using t25b
   refine WCt rfl ?_
   refine WCs (fun K26 hK27 => ?_)
   refine WCg (WLr 2 [(6, .iface 35 (.int .i64 9)), (20, .iface 35 (.int .i64 9))] (fun _ => by kernel_rfl) (WLd rfl (QXn (hK27 _ _ ?_))))
   refine WC.ret ?_
   refine QXr ?_
   refine (hret _ _ _ rfl ?_).1
   clear hN hret hret' hK27 hK12 hK10 hK2
   have z_ : goodL (vals L) = false := (by simpa using t25b)
   unfold acceptE
   rw [if_pos (.inr z_)]
   exact ⟨rfl, hf23⟩
  ·
   have t25 : (goodL (vals L)) = true := by first | (simpa only [Bool.not_eq_true', Bool.not_eq_false'] using t25b) | simpa using t25b
   refine WCf rfl (WC.skip (QXn (hK10 _ _ ?_)))
   refine WCs (fun K28 hK29 => ?_)
   refine WCs (fun K30 hK31 => ?_)
   refine WCg (WLr 1 [(21, .pointer (some ⟨p, 0, none⟩))] (fun _ => by kernel_rfl) ?_)
   refine WL.load 50 (.pointer (some ⟨g3, 0, none⟩)) (.agg #[.int .i64 n, .int .i64 d]) 22 (by kernel_rfl) (run_ld (hC22.get 1 rfl) rfl) ?_
   refine WLc rfl rfl rfl rfl rfl (by kernel_rfl) (asked_ct _ p V sp n d w21 (voAt_fr hv0 hf23 (fun _ _ => by simp)) hd) ?_
   rintro _ w33 ⟨rfl, hF32⟩
   refine ⟨_, rfl, ?_⟩
   have hC34 := hC22.call hF32
   have hf35 := hf23.trans hF32 (by simp)
   refine WLr 1 [(7, errV 35 (askedE V n d))] (fun _ => by kernel_rfl) (WLd rfl (QXn (hK31 _ _ ?_)))
   refine WCs (fun K36 hK37 => ?_)
   refine WCg (WLr 1 [(24, errV 35 (askedE V n d))] (fun _ => by kernel_rfl) ?_)
   have hr38 : ∀ w_, Sem.run Try.prog (do eqGuard .neq 27 (Operand.tmp 24) (Operand.const (.nilIface)) (errV 35 (askedE V n d)) (.nilIface); binOp .neq 27 (errV 35 (askedE V n d)) (.nilIface)) w_ = .ok (.bool (!(decide (askedE V n d = 0)))) w_ := fun w_ => (err_neq _ (askedE V n d) (decide (askedE V n d = 0)) (by rfl) _)
   refine WL.sem (do eqGuard .neq 27 (Operand.tmp 24) (Operand.const (.nilIface)) (errV 35 (askedE V n d)) (.nilIface); binOp .neq 27 (errV 35 (askedE V n d)) (.nilIface)) 25 (.bool (!(decide (askedE V n d = 0)))) (by kernel_rfl) (hr38 _) ?_
   refine WLd rfl (QXn (hK37 _ _ ?_))
   refine WCa 25 (!(decide (askedE V n d = 0))) rfl (fun t39b => ?_) (fun t39b => ?_)
   ·
    have t39 : (decide (askedE V n d = 0)) = false := by first | (simpa only [Bool.not_eq_true', Bool.not_eq_false'] using t39b) | simpa using t39b
    refine WCt rfl ?_
    refine WCs (fun K40 hK41 => ?_)
    refine WCg (WLr 2 [(6, errV 35 (askedE V n d)), (26, errV 35 (askedE V n d))] (fun _ => by kernel_rfl) (WLd rfl (QXn (hK41 _ _ ?_))))
    refine WC.ret ?_
    refine QXr ?_
    refine (hret _ _ _ rfl ?_).1
    clear hN hret hret' hK41 hK37 hK31 hK29 hK12 hK10 hK2
    have z1_ : goodBal n d = true := (by simpa using t17b)
    have z2_ : goodL (vals L) = true := (by simpa using t25b)
    unfold acceptE
    rw [if_neg (by rw [z1_, z2_]; simp)]
    exact ⟨rfl, hf35⟩
   ·
    have t39 : (decide (askedE V n d = 0)) = true := by first | (simpa only [Bool.not_eq_true', Bool.not_eq_false'] using t39b) | simpa using t39b
    exfalso; have za_ := hE; unfold acceptE at za_; simp_all

theorem acc_goodB {V : Vo} {n d : Int} {L : List CmdV} (h : acceptE V n d L = 0) : goodBal n d = true := by
  unfold acceptE at h; cases h_ : goodBal n d
  · rw [h_] at h; simp at h
  · rfl
theorem acc_goodL {V : Vo} {n d : Int} {L : List CmdV} (h : acceptE V n d L = 0) : goodL L = true := by
  unfold acceptE at h; cases h_ : goodL L
  · rw [h_] at h; simp at h
  · rfl
theorem acc_asked {V : Vo} {n d : Int} {L : List CmdV} (h : acceptE V n d L = 0) : askedE V n d = 0 := by
  have h1 := acc_goodB h; have h2 := acc_goodL h
  unfold acceptE at h; rw [if_neg (by rw [h1, h2]; simp)] at h; exact h
set_option maxHeartbeats 1000000 in
theorem Accept_yes (FV : List Nat) (p : Nat) (V : Vo) (sp : Nat) (n d : Int) (A : Option Addr) (c : Nat) (L : List Cmd) (F : List Nat) (N Y : Ct) (size : Int) (w : World) (hv : voAt w FV p V sp) (ht : stAt w F sp N Y size) (hdis : ∀ x ∈ FV, x ∉ F) (hd : isI64 d) (hr : Rd w 12 cellsC A L) (hL : ∀ m ∈ L, cmdAt w m) (hlim : totE L ≤ 1099511627776) (hE : acceptE V n d (vals L) = 0) (hroom1 : putE N size kP 16 = 0) (hroom2 : putE (putL N kP (bytesN [n, d])) size kV (bytesN [n, d] ++ bytesL (vals L)).length = 0) : Calls Try.prog 22 #[.pointer (some ⟨p, 0, none⟩), .agg #[.int .i64 n, .int .i64 d], .slice A L.length c] w fun e w' => ∃ (FV2 F2 : List Nat), e = .returned .nilIface ∧ Fr w w' (p :: F) ∧ voAt w' FV2 p ⟨n, d, n, d, vals L, V.node⟩ sp ∧ stAt w' F2 sp (putL (putL N kP (bytesN [n, d])) kV (bytesN [n, d] ++ bytesL (vals L))) (putL (putL N kP (bytesN [n, d])) kV (bytesN [n, d] ++ bytesL (vals L))) size ∧ (∀ x ∈ F2, x ∈ F ∨ w.heap.size ≤ x) ∧ (∀ x ∈ FV2, x = p ∨ w.heap.size ≤ x) ∧ (∀ x ∈ FV2, x ∉ F2) := by
 refine enterD (n := 34) Try.func22 rfl rfl (Nat.le_of_ble_eq_true rfl) ?_
 intro Q0 hN hret hret'
 have hv0 := hv
 obtain ⟨va, vc, vL, vR, hp_, hrd_, hin_, hvv_, hvl_, rfl, hnp_, hlt_, hw1_, hw2_, hw3_, hw4_, hw5_⟩ := hv
 have hpF_ : p ∉ F := hdis p (by simp)
 have hbA_ : ∀ b off, va = some ⟨b, off, none⟩ → b ∉ p :: F := fun b off e h_ => (List.mem_cons.1 h_).elim (fun q_ => hnp_ (q_ ▸ List.mem_append_left _ (blk_in e))) (fun q_ => hdis b (List.mem_cons_of_mem _ (List.mem_append_left _ (blk_in e))) q_)
 have hbR_ : ∀ x ∈ vR, x ∉ p :: F := fun x hx h_ => (List.mem_cons.1 h_).elim (fun q_ => hnp_ (q_ ▸ List.mem_append_right _ hx)) (fun q_ => hdis x (List.mem_cons_of_mem _ (List.mem_append_right _ hx)) q_)
 have hC := Cx.openR hp_ (stAt_lt ht) hpF_
 refine WCs (fun K1 hK2 => ?_)
 refine WCg ?_
 refine WL.newM hC (fun b => .pointer (some ⟨b, 0, none⟩)) (.cells #[.int .i64 n, .int .i64 d] 50) 4 (fun _ => by kernel_rfl) (fun g3 w4 hb7 hF5 hC6 => ?_)
 have hf8 := stAt_fr ht hF5 (by simp)
 have hf9 := (Fr.refl w []).trans hF5 (by simp)
 refine WLr 1 [(6, .nilIface)] (fun _ => by kernel_rfl) (WLd rfl (QXn (hK2 _ _ ?_)))
 refine WCs (fun K10 hK11 => ?_)
 refine WCs (fun K12 hK13 => ?_)
 refine WCg (WLr 3 [(10, .bool false), (9, .bool false), (8, .pointer (some ⟨p, 0, none⟩))] (fun _ => by kernel_rfl) ?_)
 refine WL.load 50 (.pointer (some ⟨g3, 0, none⟩)) (.agg #[.int .i64 n, .int .i64 d]) 11 (by kernel_rfl) (run_ld (hC6.get 1 rfl) rfl) ?_
 refine WLc rfl rfl rfl rfl rfl (by kernel_rfl) (goodBallot_ct n d w4 hd) ?_
 rintro _ w15 ⟨rfl, hF14⟩
 refine ⟨_, rfl, ?_⟩
 have hC16 := hC6.call hF14
 have hf17 := stAt_fr hf8 hF14 (by simp)
 have hf18 := hf9.trans hF14 (by simp)
 refine WLr 3 [(15, .bool (!(goodBal n d))), (14, .bool (!(goodBal n d))), (13, .bool (!(goodBal n d)))] (fun _ => by kernel_rfl) ?_
 refine WL.know 15 (.bool (!(goodBal n d))) (.bool false) rfl (congrArg Value.bool (by simp [acc_asked hE, acc_goodL hE, acc_goodB hE])) ?_
 refine WLr 1 [(16, .slice A L.length c)] (fun _ => by kernel_rfl) ?_
 refine WLc rfl rfl rfl rfl rfl (by kernel_rfl) (CheckLog_n A L.length c L w15 (Rd.fr hr hf18) rfl (fun m_ h_ => cmdAt.fr0 (hL m_ h_) hf18)) ?_
 rintro _ w20 ⟨rfl, hF19⟩
 refine ⟨_, rfl, ?_⟩
 have hC21 := hC16.call hF19
 have hf22 := stAt_fr hf17 hF19 (by simp)
 have hf23 := hf18.trans hF19 (by simp)
 have hr24 : ∀ w_, Sem.run Try.prog (do eqGuard .neq 27 (Operand.tmp 17) (Operand.const (.nilIface)) (errV 35 (if goodL (vals L) then 0 else 9)) (.nilIface); binOp .neq 27 (errV 35 (if goodL (vals L) then 0 else 9)) (.nilIface)) w_ = .ok (.bool (!(goodL (vals L)))) w_ := fun w_ => (err_neq _ (if goodL (vals L) then 0 else 9) (goodL (vals L)) (by cases goodL (vals L) <;> rfl) _)
 refine WL.sem (do eqGuard .neq 27 (Operand.tmp 17) (Operand.const (.nilIface)) (errV 35 (if goodL (vals L) then 0 else 9)) (.nilIface); binOp .neq 27 (errV 35 (if goodL (vals L) then 0 else 9)) (.nilIface)) 18 (.bool (!(goodL (vals L)))) (by kernel_rfl) (hr24 _) ?_
 refine WLr 1 [(19, .bool (!(goodL (vals L))))] (fun _ => by kernel_rfl) (WLd rfl (QXn (hK13 _ _ ?_)))
 refine WC.know 19 (.bool (!(goodL (vals L)))) (.bool false) rfl (congrArg Value.bool (by simp [acc_asked hE, acc_goodL hE, acc_goodB hE])) ?_
 refine WCf rfl (WC.skip (QXn (hK11 _ _ ?_)))
 refine WCs (fun K25 hK26 => ?_)
 refine WCs (fun K27 hK28 => ?_)
 refine WCg (WLr 1 [(21, .pointer (some ⟨p, 0, none⟩))] (fun _ => by kernel_rfl) ?_)
 refine WL.load 50 (.pointer (some ⟨g3, 0, none⟩)) (.agg #[.int .i64 n, .int .i64 d]) 22 (by kernel_rfl) (run_ld (hC21.get 1 rfl) rfl) ?_
 refine WLc rfl rfl rfl rfl rfl (by kernel_rfl) (asked_ct _ p V sp n d w20 (voAt_fr hv0 hf23 (fun _ _ => by simp)) hd) ?_
 rintro _ w30 ⟨rfl, hF29⟩
 refine ⟨_, rfl, ?_⟩
 have hC31 := hC21.call hF29
 have hf32 := stAt_fr hf22 hF29 (by simp)
 have hf33 := hf23.trans hF29 (by simp)
 refine WLr 1 [(7, errV 35 (askedE V n d))] (fun _ => by kernel_rfl) (WLd rfl (QXn (hK28 _ _ ?_)))
 refine WCs (fun K34 hK35 => ?_)
 refine WCg (WLr 1 [(24, errV 35 (askedE V n d))] (fun _ => by kernel_rfl) ?_)
 have hr36 : ∀ w_, Sem.run Try.prog (do eqGuard .neq 27 (Operand.tmp 24) (Operand.const (.nilIface)) (errV 35 (askedE V n d)) (.nilIface); binOp .neq 27 (errV 35 (askedE V n d)) (.nilIface)) w_ = .ok (.bool (!(decide (askedE V n d = 0)))) w_ := fun w_ => (err_neq _ (askedE V n d) (decide (askedE V n d = 0)) (by rfl) _)
 refine WL.sem (do eqGuard .neq 27 (Operand.tmp 24) (Operand.const (.nilIface)) (errV 35 (askedE V n d)) (.nilIface); binOp .neq 27 (errV 35 (askedE V n d)) (.nilIface)) 25 (.bool (!(decide (askedE V n d = 0)))) (by kernel_rfl) (hr36 _) ?_
 refine WLd rfl (QXn (hK35 _ _ ?_))
 refine WC.know 25 (.bool (!(decide (askedE V n d = 0)))) (.bool false) rfl (congrArg Value.bool (by simp [acc_asked hE])) ?_
 refine WCf rfl (WC.skip (QXn (hK26 _ _ ?_)))
 refine WCs (fun K37 hK38 => ?_)
 refine WC.drawC hC31 (p :: F) (by kernel_rfl) (fun w39 hF40 hC41 hS42 => ?_)
 have hf43 := stAt_fr hf32 hF40 (by simp)
 have hf44 := hf33.trans hF40 (by simp)
 refine WDp (NPt hN) 0 27 (.pointer (some ⟨p, 0, none⟩)) (by kernel_rfl) (fun _ => by kernel_rfl) hS42 ?_
 refine WDp (NPt hN) 3 30 (.slice A L.length c) (by kernel_rfl) (fun _ => by kernel_rfl) hS42 ?_
 refine WDl (NPt hN) 1 50 (.pointer (some ⟨g3, 0, none⟩)) (.agg #[.int .i64 n, .int .i64 d]) 28 (by kernel_rfl) (by kernel_rfl) (fun _ hS_ => run_ld (Fr.has hS_ (hC41.get 1 rfl) (fun h_ => (List.mem_cons.1 h_).elim (fun e_ => absurd e_ (hC41.ne 1 0 rfl rfl (by decide))) (hC41.notin 0 1 rfl rfl))) rfl) hS42 ?_
 refine WDl (NPt hN) 2 50 (.pointer (some ⟨g3, 0, none⟩)) (.agg #[.int .i64 n, .int .i64 d]) 29 (by kernel_rfl) (by kernel_rfl) (fun _ hS_ => run_ld (Fr.has hS_ (hC41.get 1 rfl) (fun h_ => (List.mem_cons.1 h_).elim (fun e_ => absurd e_ (hC41.ne 1 0 rfl rfl (by decide))) (hC41.notin 0 1 rfl rfl))) rfl) hS42 ?_
 have s1_ := hC41.fr.size
 refine WD.call 4 (by kernel_rfl) rfl rfl rfl rfl rfl (by kernel_rfl) (clone_n A L.length c L w39 (Rd.fr hr hf44) rfl (fun m_ h_ => cmdAt.fr0 (hL m_ h_) hf44) (by have z2_ := totE_len L; omega)) ?_
 rintro _ w50 ⟨A45, c46, L47, R48, rfl, hF49, ho53, hli54, hvv55, hRg56, hdd57⟩
 have hC51 := callNN hC41 hF49 (own_ge ho53) (own_lt ho53) (fun x_ h_ => (hRg56 x_ h_).1) (fun x_ h_ => (hRg56 x_ h_).2) hdd57
 have ho58 := own_base (b' := 0) ho53 (fun _ _ => Nat.zero_le _)
 have hS60 := hS42.trans hF49 (by simp)
 refine ⟨_, rfl, hS60, ?_⟩
 have hf61 := stAt_fr hf43 hF49 (by simp)
 have hf62 := hf44.trans hF49 (by simp)
 refine WDp (NPt hN) 5 32 (.agg #[.int .i64 n, .int .i64 d, .int .i64 n, .int .i64 d, .slice A45 L47.length c46]) (by kernel_rfl) (fun _ => by kernel_rfl) hS60 ?_
 have s0_ := hC51.fr.size
 have hct_ := totE_vals hvv55
 refine WD.call 6 (by kernel_rfl) rfl rfl rfl rfl rfl (by kernel_rfl) (keep1_ct p sp F N Y size V.pn V.pd V.an V.ad V.node n d n d va vL.length vc A45 c46 L47 w50 (hC51.get 0 rfl) hf61 (hC51.notin 0 0 rfl rfl) (own_rd ho58 cellsC_len (by decide)) hli54.at_ (by rw [hct_]; exact hlim) (fun _ b_ off_ e_ h_ => (List.mem_cons.1 h_).elim (fun q_ => hC51.notin 1 0 rfl rfl (q_ ▸ blk_in e_)) (fun q_ => hC51.disj 1 0 rfl rfl (by decide) b_ (blk_in e_) q_)) (fun m_ hm_ x_ hx_ h_ => (List.mem_cons.1 h_).elim (fun q_ => hC51.notin 2 0 rfl rfl (q_ ▸ hli54.sub m_ hm_ x_ hx_)) (fun q_ => hC51.disj 2 0 rfl rfl (by decide) x_ (hli54.sub m_ hm_ x_ hx_) q_)) hroom1 (by rw [hvv55]; exact hroom2)) ?_
 rintro _ w65 ⟨F64, rfl, hF66, hT67, hs68, hn69, hp70⟩
 have hC71 := hC51.callMF 0 0 rfl rfl hF66 hp70 hs68 (stAt_lt hT67)
 have hS72 := hS60.trans hF66 (fun x_ hx_ => .inl (by simpa using hx_))
 refine ⟨_, rfl, hS72, ?_⟩
 have ho73 := own_fr ho58 hF66 (fun x_ hx_ h_ => (List.mem_cons.1 h_).elim (fun e_ => absurd (e_ ▸ hx_) (hC51.notin 1 0 rfl rfl)) (hC51.disj 1 0 rfl rfl (by decide) x_ hx_))
 have hl74 := logIn.fr hli54 hF66 (fun x_ hx_ h_ => (List.mem_cons.1 h_).elim (fun e_ => absurd (e_ ▸ hx_) (hC51.notin 2 0 rfl rfl)) (hC51.disj 2 0 rfl rfl (by decide) x_ hx_))
 refine WDp (NPt hN) 7 6 (.nilIface) (by kernel_rfl) (fun _ => by kernel_rfl) hS72 ?_
 refine WD.done (by kernel_rfl) ?_
 refine QXn (hK38 _ _ ?_)
 refine WC.ret ?_
 refine (hret _ _ _ rfl ?_).1
 clear hN hret hret' hK38 hK35 hK28 hK26 hK13 hK11 hK2
 have hg_ : goodBal n d = true := by
  unfold acceptE at hE
  cases h_ : goodBal n d
  ·
   rw [h_] at hE; simp at hE
  ·
   rfl
 obtain ⟨hi1_, hi2_⟩ := goodBal_i64 hg_
 have hT2_ := hT67
 rw [hvv55] at hT2_
 exact ⟨p :: (blk (.slice A45 L47.length c46) ++ R48), F64, rfl, hC71.fr, ⟨A45, c46, L47, R48, hC71.get 0 rfl, own_rd ho73 cellsC_len (by decide), hl74, hvv55, (by have z_ := congrArg List.length hvv55; rw [vals_len, vals_len] at z_; have z2_ := totE_len L; omega), rfl, (fun h_ => (List.mem_append.1 h_).elim (hC71.notin 1 0 rfl rfl) (hC71.notin 2 0 rfl rfl)), (fun x_ hx_ => (List.mem_cons.1 hx_).elim (fun e_ => by subst e_; exact lt_of_heap (hC71.get 0 rfl)) (fun h_ => (List.mem_append.1 h_).elim (hC71.ltF 1 rfl x_) (hC71.ltF 2 rfl x_))), hi1_, hi2_, hi1_, hi2_, hw5_⟩, hT2_, (fun x_ h_ => (hs68 x_ h_).imp id (fun z_ => Nat.le_trans s0_ z_)), (fun x_ hx_ => (List.mem_cons.1 hx_).imp id (fun h_ => Nat.le_trans s1_ ((List.mem_append.1 h_).elim (own_ge ho53 x_) (fun z_ => (hRg56 x_ z_).1)))), (fun x_ hx_ h2_ => (List.mem_cons.1 hx_).elim (fun e_ => hC71.notin 0 0 rfl rfl (e_ ▸ h2_)) (fun h_ => (List.mem_append.1 h_).elim (fun z_ => hC71.disj 1 0 rfl rfl (by decide) x_ z_ h2_) (fun z_ => hC71.disj 2 0 rfl rfl (by decide) x_ z_ h2_)))⟩

end Go.Proofs.Ytjacpjdikhlcoaa
