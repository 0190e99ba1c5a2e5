/- Contracts of functions of the program, each proved by a walk through its code; conditions stand in the statements. -/
import Derived.Test.YtlpmmepbfafpfaaRdD15
namespace Go.Proofs.Ytlpmmepbfafpfaa
set_option linter.unusedSimpArgs false
set_option linter.unusedVariables false
set_option linter.unusedSectionVars false
open Go Go.RowKit Go.Tw
set_option linter.unusedVariables false
set_option maxRecDepth 20000
set_option maxHeartbeats 4000000 in
theorem Promise_ct (F : List Nat) (p : Nat) (T : Rn) (node an ad : Int) (A : Option Addr) (c : Nat) (log : List Cm) (w : World) (ht : rdAt w F p T) (hn0_ : 1 ≤ T.n) (hn1_ : T.n ≤ 8) (hhl_ : T.hv.length ≤ 900) (hwl_ : T.want.length ≤ 1) (hll_ : T.log.length ≤ 256) (hr : Rd w 12 cellsC A log) (hok : okL log) (hAF : ∀ b off, A = some ⟨b, off, none⟩ → b ∉ F) : Calls Try.prog 9 #[.pointer (some ⟨p, 0, none⟩), .int .i64 node, .agg #[.int .i64 an, .int .i64 ad], .slice A log.length c] w fun e w' => ∃ F2, e = .returned (.int .i64 (promT T node an ad log).stage) ∧ Fr w w' F ∧ rdAt w' F2 p (promT T node an ad log) ∧ ∀ x ∈ F2, x ∈ F ∨ w.heap.size ≤ x := by
  refine enterD (n := 100) Try.func9 rfl rfl (Nat.le_of_ble_eq_true rfl) ?_
  intro Q0 hN hret hret'
  have hlg_ := hok.2.2
  have ht0 := ht
  obtain ⟨Ah, ch, Aw, cw, Al, cl, hp_, hoh_, how_, hol_, rfl, hnn_, hdd_⟩ := ht
  have hC := Cx.open3 hp_ (own_lt hoh_) (own_lt how_) (own_lt hol_) hnn_ hdd_
  refine WC.seq (fun K1 hK2 => ?_)
  refine WC.region ?_
  refine WL.newM hC (fun b => .pointer (some ⟨b, 0, none⟩)) (.cells #[.int .i64 an, .int .i64 ad] 31) 6 (fun _ => by kernel_rfl) (fun g3 w4 hb7 hF5 hC6 => ?_)
  have ho8 := own_fr hoh_ hF5 (by simp)
  have ho9 := own_fr how_ hF5 (by simp)
  have ho10 := own_fr hol_ hF5 (by simp)
  have hf11 := (Fr.refl w []).trans hF5 (by simp)
  refine WL.runs 1 [(8, .int .i64 0)] (fun _ => by kernel_rfl) ?_
  refine WL.done rfl ?_
  refine QX.then_normal (hK2 _ _ ?_)
  refine WC.seq (fun K12 hK13 => ?_)
  refine WC.seq (fun K14 hK15 => ?_)
  refine WC.region ?_
  refine WL.runs 1 [(11, .pointer (some ⟨p, 0, none⟩))] (fun _ => by kernel_rfl) ?_
  refine WL.call rfl rfl rfl rfl rfl (by kernel_rfl) (Stage_ct p T.stage (.int .i64 T.n) (.slice Ah T.hv.length ch) (.int .i64 T.bn) (.int .i64 T.bd) (.slice Aw T.want.length cw) (.int .i64 T.sn) (.int .i64 T.sd) (.slice Al T.log.length cl) w4 (hC6.get 0 rfl)) ?_
  rintro _ w17 ⟨rfl, hF16⟩
  refine ⟨_, rfl, ?_⟩
  have hC18 := hC6.call hF16
  have ho19 := own_fr ho8 hF16 (by simp)
  have ho20 := own_fr ho9 hF16 (by simp)
  have ho21 := own_fr ho10 hF16 (by simp)
  have hf22 := hf11.trans hF16 (by simp)
  refine WL.runs 2 [(14, .bool (T.stage != 1)), (13, .bool (T.stage != 1))] (fun _ => by kernel_rfl) ?_
  refine WL.test_at 14 (T.stage != 1) rfl (fun t23b => ?_) (fun t23b => ?_)
  · -- T.stage ≠ 1: true
    have t23 : T.stage ≠ 1 := by simpa using t23b
    refine WL.runs 12 [(26, .bool true), (25, undef), (24, undef), (23, undef), (22, undef), (21, undef), (20, undef), (19, .bool true), (18, .bool true), (17, undef), (16, undef), (15, undef)] (fun _ => by kernel_rfl) ?_
    refine WL.done rfl ?_
    refine QX.then_normal (hK15 _ _ ?_)
    refine WC.cond_true rfl ?_
    refine WC.seq (fun K24 hK25 => ?_)
    refine WC.region ?_
    refine WL.runs 1 [(27, .pointer (some ⟨p, 0, none⟩))] (fun _ => by kernel_rfl) ?_
    refine WL.call rfl rfl rfl rfl rfl (by kernel_rfl) (Stage_ct p T.stage (.int .i64 T.n) (.slice Ah T.hv.length ch) (.int .i64 T.bn) (.int .i64 T.bd) (.slice Aw T.want.length cw) (.int .i64 T.sn) (.int .i64 T.sd) (.slice Al T.log.length cl) w17 (hC18.get 0 rfl)) ?_
    rintro _ w27 ⟨rfl, hF26⟩
    refine ⟨_, rfl, ?_⟩
    have hC28 := hC18.call hF26
    have ho29 := own_fr ho19 hF26 (by simp)
    have ho30 := own_fr ho20 hF26 (by simp)
    have ho31 := own_fr ho21 hF26 (by simp)
    have hf32 := hf22.trans hF26 (by simp)
    refine WL.runs 1 [(8, .int .i64 T.stage)] (fun _ => by kernel_rfl) ?_
    refine WL.done rfl ?_
    refine QX.then_normal (hK25 _ _ ?_)
    refine WC.ret ?_
    refine QX.then_ret ?_
    refine (hret _ _ _ rfl ?_).1
    clear hN hret hret' hK25 hK15 hK13 hK2
    have hpt_ : promT T node an ad log = T := prom_no (.inl (by assumption))
    rw [hpt_]
    exact ⟨_, rfl, hf32.mono (fun _ h_ => nomatch h_), rdAt_fr ht0 hf32 (by simp), fun _ h_ => .inl h_⟩
  · -- T.stage ≠ 1: false
    have t23 : T.stage = 1 := by simpa using t23b
    refine WL.runs 1 [(15, .slice A log.length c)] (fun _ => by kernel_rfl) ?_
    refine WL.call rfl rfl rfl rfl rfl (by kernel_rfl) (CheckLog_n A log.length c log w17 (Rd.frN hr hC18.fr hAF) (by first | rfl | assumption | (simp; done) | omega) hok) ?_
    rintro _ w34 ⟨rfl, hF33⟩
    refine ⟨_, rfl, ?_⟩
    have hC35 := hC18.call hF33
    have ho36 := own_fr ho19 hF33 (by simp)
    have ho37 := own_fr ho20 hF33 (by simp)
    have ho38 := own_fr ho21 hF33 (by simp)
    have hf39 := hf22.trans hF33 (by simp)
    refine WL.runs 7 [(23, .int .i64 node), (22, .pointer (some ⟨p, 0, none⟩)), (21, .pointer (some ⟨p, 0, none⟩)), (20, .pointer (some ⟨p, 0, none⟩)), (19, .bool false), (18, .bool false), (17, .bool false)] (fun _ => by kernel_rfl) ?_
    refine WL.call rfl rfl rfl rfl rfl (by kernel_rfl) (add_ct p T.n Ah ch T.hv (.int .i64 T.bn) (.int .i64 T.bd) (.slice Aw T.want.length cw) (.int .i64 T.stage) (.int .i64 T.sn) (.int .i64 T.sd) (.slice Al T.log.length cl) node w34 (hC35.get 0 rfl) ho36 (hC35.notin 0 0 rfl rfl) (by omega) (by omega) (by omega)) ?_
    rintro _ w44 ⟨Ah40, ch41, hs42, rfl, hF43, hse49, hg46, ho47, hsub48⟩
    have hC45 := hC35.callMF 0 0 rfl rfl hF43 hg46 hsub48 (own_lt ho47)
    refine ⟨_, rfl, ?_⟩
    have hsl_ : hs42.length ≤ T.hv.length + 1 := by rw [hse49]; split <;> simp
    have ho50 := own_fr ho37 hF43 (fun x_ hx_ h_ => (List.mem_cons.1 h_).elim (fun e_ => absurd (e_ ▸ hx_) (hC35.notin 1 0 rfl rfl)) (hC35.disj 1 0 rfl rfl (by decide) x_ hx_))
    have ho51 := own_fr ho38 hF43 (fun x_ hx_ h_ => (List.mem_cons.1 h_).elim (fun e_ => absurd (e_ ▸ hx_) (hC35.notin 2 0 rfl rfl)) (hC35.disj 2 0 rfl rfl (by decide) x_ hx_))
    refine WL.runs 2 [(26, .bool (!(addB T.n T.hv node))), (25, .bool (!(addB T.n T.hv node)))] (fun _ => by kernel_rfl) ?_
    refine WL.done rfl ?_
    refine QX.then_normal (hK15 _ _ ?_)
    refine WC.test_at 26 (!(addB T.n T.hv node)) rfl (fun t52b => ?_) (fun t52b => ?_)
    · -- (!(addB T.n T.hv node)) = true: true
      have t52 : (addB T.n T.hv node) = false := by first | (simpa only [Bool.not_eq_true', Bool.not_eq_false'] using t52b) | simpa using t52b
      refine WC.cond_true rfl ?_
      refine WC.seq (fun K53 hK54 => ?_)
      refine WC.region ?_
      refine WL.runs 1 [(27, .pointer (some ⟨p, 0, none⟩))] (fun _ => by kernel_rfl) ?_
      refine WL.call rfl rfl rfl rfl rfl (by kernel_rfl) (Stage_ct p T.stage (.int .i64 T.n) (.slice Ah40 hs42.length ch41) (.int .i64 T.bn) (.int .i64 T.bd) (.slice Aw T.want.length cw) (.int .i64 T.sn) (.int .i64 T.sd) (.slice Al T.log.length cl) w44 (hC45.get 0 rfl)) ?_
      rintro _ w56 ⟨rfl, hF55⟩
      refine ⟨_, rfl, ?_⟩
      have hC57 := hC45.call hF55
      have ho58 := own_fr ho47 hF55 (by simp)
      have ho59 := own_fr ho50 hF55 (by simp)
      have ho60 := own_fr ho51 hF55 (by simp)
      refine WL.runs 1 [(8, .int .i64 T.stage)] (fun _ => by kernel_rfl) ?_
      refine WL.done rfl ?_
      refine QX.then_normal (hK54 _ _ ?_)
      refine WC.ret ?_
      refine QX.then_ret ?_
      refine (hret _ _ _ rfl ?_).1
      clear hN hret hret' hK54 hK15 hK13 hK2
      rw [t52] at hse49
      simp only [if_true, Bool.false_eq_true, if_false] at hse49
      subst hse49
      obtain ⟨F2_, hrd_, hsub_⟩ := rd_close (T := T) hC57 0 0 1 2 rfl rfl rfl rfl ho58 ho59 ho60 (by decide) (by decide) (by decide)
      have hpt_ : promT T node an ad log = T := prom_no (.inr t52)
      rw [hpt_]
      exact ⟨F2_, rfl, hC57.fr, hrd_, hsub_⟩
    · -- (!(addB T.n T.hv node)) = true: false
      have t52 : (addB T.n T.hv node) = true := by first | (simpa only [Bool.not_eq_true', Bool.not_eq_false'] using t52b) | simpa using t52b
      refine WC.cond_false rfl ?_
      refine WC.skip ?_
      refine QX.then_normal (hK13 _ _ ?_)
      refine WC.seq (fun K61 hK62 => ?_)
      refine WC.seq (fun K63 hK64 => ?_)
      refine WC.drawC hC45 [] (by kernel_rfl) (fun w65 hF66 hC67 hS68 => ?_)
      have ho69 := own_fr ho47 hF66 (by simp)
      have ho70 := own_fr ho50 hF66 (by simp)
      have ho71 := own_fr ho51 hF66 (by simp)
      refine WD.pure (NoPanic.then (NoPanic.then hN)) 0 29 (.pointer (some ⟨p, 0, none⟩)) (by kernel_rfl) (fun _ => by kernel_rfl) hS68 ?_
      refine WD.pure (NoPanic.then (NoPanic.then hN)) 1 30 (.pointer (some ⟨p, 0, none⟩)) (by kernel_rfl) (fun _ => by kernel_rfl) hS68 ?_
      refine WD.pure (NoPanic.then (NoPanic.then hN)) 2 31 (.pointer (some ⟨p, 6, none⟩)) (by kernel_rfl) (fun _ => by kernel_rfl) hS68 ?_
      refine WD.load (NoPanic.then (NoPanic.then hN)) 3 31 (.pointer (some ⟨p, 6, none⟩)) (.agg #[.int .i64 T.sn, .int .i64 T.sd]) 32 (by kernel_rfl) (by kernel_rfl) (fun _ hS_ => run_ld (Fr.has hS_ (hC67.get 0 rfl) (by simp)) rfl) hS68 ?_
      refine WD.load (NoPanic.then (NoPanic.then hN)) 4 31 (.pointer (some ⟨g3, 0, none⟩)) (.agg #[.int .i64 an, .int .i64 ad]) 33 (by kernel_rfl) (by kernel_rfl) (fun _ hS_ => run_ld (Fr.has hS_ (hC67.get 1 rfl) (by simp)) rfl) hS68 ?_
      refine WD.call 5 (by kernel_rfl) rfl rfl rfl rfl rfl (by kernel_rfl) (Less_ct (T.sn, T.sd) (an, ad) w65) ?_
      rintro _ w73 ⟨rfl, hF72⟩
      have hS75 := hS68.trans hF72 (by simp)
      refine ⟨_, rfl, hS75, ?_⟩
      have hC74 := hC67.call hF72
      have ho76 := own_fr ho69 hF72 (by simp)
      have ho77 := own_fr ho70 hF72 (by simp)
      have ho78 := own_fr ho71 hF72 (by simp)
      refine WD.done (by kernel_rfl) ?_
      refine QX.then_normal (hK64 _ _ ?_)
      refine WC.test_at 34 (decide (orI [cmpI T.sn an, cmpI T.sd ad] < 0)) rfl (fun t79b => ?_) (fun t79b => ?_)
      · -- (decide (orI [cmpI T.sn an, cmpI T.sd ad] < 0)) = true: true
        refine WC.cond_true rfl ?_
        refine WC.drawC hC74 [p] (by kernel_rfl) (fun w80 hF81 hC82 hS83 => ?_)
        have ho84 := own_fr ho76 hF81 (by simp)
        have ho85 := own_fr ho77 hF81 (by simp)
        have ho86 := own_fr ho78 hF81 (by simp)
        refine WD.pure (NoPanic.then hN) 0 35 (.pointer (some ⟨p, 0, none⟩)) (by kernel_rfl) (fun _ => by kernel_rfl) hS83 ?_
        refine WD.pure (NoPanic.then hN) 1 36 (.pointer (some ⟨p, 0, none⟩)) (by kernel_rfl) (fun _ => by kernel_rfl) hS83 ?_
        refine WD.pure (NoPanic.then hN) 3 38 (.slice A log.length c) (by kernel_rfl) (fun _ => by kernel_rfl) hS83 ?_
        refine WD.load (NoPanic.then hN) 2 31 (.pointer (some ⟨g3, 0, none⟩)) (.agg #[.int .i64 an, .int .i64 ad]) 37 (by kernel_rfl) (by kernel_rfl) (fun _ hS_ => run_ld (Fr.has hS_ (hC82.get 1 rfl) (by simpa using hC82.ne 1 0 rfl rfl (by decide))) rfl) hS83 ?_
        refine WD.call 4 (by kernel_rfl) rfl rfl rfl rfl rfl (by kernel_rfl) (copied_n A log.length c log w80 (Rd.frN hr hC82.fr hAF) (by first | rfl | assumption | (simp; done) | omega) (by first | (simp; done) | omega)) ?_
        rintro _ w89 ⟨v_, rfl, hF88, ho87⟩
        have hC90 := hC82.callN hF88 (own_ge ho87) (own_lt ho87)
        obtain ⟨A91, c92, rfl, hle93⟩ := own_form ho87
        have ho95 := own_base (b' := 0) ho87 (fun _ _ => Nat.zero_le _)
        have hS96 := hS83.trans hF88 (by simp)
        refine ⟨_, rfl, hS96, ?_⟩
        have ho97 := own_fr ho84 hF88 (by simp)
        have ho98 := own_fr ho85 hF88 (by simp)
        have ho99 := own_fr ho86 hF88 (by simp)
        refine WD.pure (NoPanic.then hN) 5 40 (.pointer (some ⟨p, 0, none⟩)) (by kernel_rfl) (fun _ => by kernel_rfl) hS96 ?_
        refine WD.pure (NoPanic.then hN) 6 41 (.pointer (some ⟨p, 6, none⟩)) (by kernel_rfl) (fun _ => by kernel_rfl) hS96 ?_
        obtain ⟨w101, hr102, hF103, hC104⟩ := sto_run (c' := #[.int .i64 T.n, .slice Ah40 hs42.length ch41, .int .i64 T.bn, .int .i64 T.bd, .slice Aw T.want.length cw, .int .i64 T.stage, .int .i64 an, .int .i64 ad, .slice Al T.log.length cl]) Try.prog hC90 0 31 p 6 (.agg #[.int .i64 an, .int .i64 ad]) rfl (by kernel_rfl)
        have hS105 := hS96.trans hF103 (by first | (simp; done) | (simp [*]; done) | (have q_ := hS96.size; simp; omega))
        refine WD.semU 7 (Instr.storeAt 31 (.pointer (some ⟨p, 6, none⟩)) (.agg #[.int .i64 an, .int .i64 ad])) (by kernel_rfl) (by kernel_rfl) hr102 hS105 ?_
        have ho106 := own_fr ho97 hF103 (hC90.apartM 0 0 rfl rfl)
        have ho107 := own_fr ho98 hF103 (hC90.apartM 1 0 rfl rfl)
        have ho108 := own_fr ho99 hF103 (hC90.apartM 2 0 rfl rfl)
        have ho109 := own_fr ho95 hF103 (hC90.apartM 3 0 rfl rfl)
        refine WD.pure (NoPanic.then hN) 8 42 (.pointer (some ⟨p, 0, none⟩)) (by kernel_rfl) (fun _ => by kernel_rfl) hS105 ?_
        refine WD.pure (NoPanic.then hN) 9 43 (.pointer (some ⟨p, 8, none⟩)) (by kernel_rfl) (fun _ => by kernel_rfl) hS105 ?_
        obtain ⟨w110, hr111, hF112, hC113⟩ := sto_run (c' := #[.int .i64 T.n, .slice Ah40 hs42.length ch41, .int .i64 T.bn, .int .i64 T.bd, .slice Aw T.want.length cw, .int .i64 T.stage, .int .i64 an, .int .i64 ad, .slice A91 log.length c92]) Try.prog hC104 0 35 p 8 (.slice A91 log.length c92) rfl (by kernel_rfl)
        have hS114 := hS105.trans hF112 (by first | (simp; done) | (simp [*]; done) | (have q_ := hS105.size; simp; omega))
        refine WD.semU 10 (Instr.storeAt 35 (.pointer (some ⟨p, 8, none⟩)) (.slice A91 log.length c92)) (by kernel_rfl) (by kernel_rfl) hr111 hS114 ?_
        have ho115 := own_fr ho106 hF112 (hC104.apartM 0 0 rfl rfl)
        have ho116 := own_fr ho107 hF112 (hC104.apartM 1 0 rfl rfl)
        have ho117 := own_fr ho108 hF112 (hC104.apartM 2 0 rfl rfl)
        have ho118 := own_fr ho109 hF112 (hC104.apartM 3 0 rfl rfl)
        refine WD.done (by kernel_rfl) ?_
        refine QX.then_normal (hK62 _ _ ?_)
        refine WC.seq (fun K119 hK120 => ?_)
        refine WC.seq (fun K121 hK122 => ?_)
        refine WC.region ?_
        refine WL.runs 3 [(46, .pointer (some ⟨p, 0, none⟩)), (45, .pointer (some ⟨p, 0, none⟩)), (44, .pointer (some ⟨p, 0, none⟩))] (fun _ => by kernel_rfl) ?_
        refine WL.call rfl rfl rfl rfl rfl (by kernel_rfl) (most_ct p T.n Ah40 ch41 hs42 (.int .i64 T.bn) (.int .i64 T.bd) (.slice Aw T.want.length cw) (.int .i64 T.stage) (.int .i64 an) (.int .i64 ad) (.slice A91 log.length c92) w110 (hC113.get 0 rfl) ho115 (hC113.notin 0 0 rfl rfl) (by omega) (by omega) (by omega)) ?_
        rintro _ w124 ⟨rfl, hF123⟩
        refine ⟨_, rfl, ?_⟩
        have hC125 := hC113.call hF123
        have ho126 := own_fr ho115 hF123 (by simp)
        have ho127 := own_fr ho116 hF123 (by simp)
        have ho128 := own_fr ho117 hF123 (by simp)
        have ho129 := own_fr ho118 hF123 (by simp)
        refine WL.runs 1 [(48, .bool (!(decide (T.n < 2 * (hs42.length : Int)))))] (fun _ => by kernel_rfl) ?_
        refine WL.done rfl ?_
        refine QX.then_normal (hK122 _ _ ?_)
        refine WC.test_at 48 (!(decide (T.n < 2 * (hs42.length : Int)))) rfl (fun t130b => ?_) (fun t130b => ?_)
        · -- (!(decide (T.n < 2 * (hs42.length : Int)))) = true: true
          have t130 : (decide (T.n < 2 * (hs42.length : Int))) = false := by first | (simpa only [Bool.not_eq_true', Bool.not_eq_false'] using t130b) | simpa using t130b
          refine WC.cond_true rfl ?_
          refine WC.seq (fun K131 hK132 => ?_)
          refine WC.region ?_
          refine WL.runs 3 [(51, .pointer (some ⟨p, 5, none⟩)), (50, .pointer (some ⟨p, 0, none⟩)), (49, .pointer (some ⟨p, 0, none⟩))] (fun _ => by kernel_rfl) ?_
          refine WL.load 3 (.pointer (some ⟨p, 5, none⟩)) (.int .i64 T.stage) 52 (by kernel_rfl) (run_ld (hC125.get 0 rfl) rfl) ?_
          refine WL.runs 1 [(8, .int .i64 T.stage)] (fun _ => by kernel_rfl) ?_
          refine WL.done rfl ?_
          refine QX.then_normal (hK132 _ _ ?_)
          refine WC.ret ?_
          refine QX.then_ret ?_
          refine (hret _ _ _ rfl ?_).1
          clear hN hret hret' hK132 hK122 hK120 hK64 hK62 hK15 hK13 hK2
          have hmo_ : ¬ (T.n < 2 * ((T.hv.length : Int) + 1)) := by have q_ := of_decide_eq_false t130; rw [hse49, t52] at q_; simp only [if_true, List.length_append, List.length_cons, List.length_nil] at q_; omega
          rw [t52] at hse49
          simp only [if_true, Bool.false_eq_true, if_false] at hse49
          subst hse49
          obtain ⟨F2_, hrd_, hsub_⟩ := rd_close (T := (⟨T.n, T.hv ++ [node], T.bn, T.bd, T.want, T.stage, an, ad, log⟩ : Rn)) hC125 0 0 1 3 rfl rfl rfl rfl ho126 ho127 ho129 (by decide) (by decide) (by decide)
          have hpt_ := prom_few (log := log) (by simpa using t23b) t52 hmo_ true (show lessB T.sn T.sd an ad = true from t79b)
          simp only [if_true, Bool.false_eq_true, if_false] at hpt_
          rw [hpt_]
          exact ⟨F2_, rfl, hC125.fr, hrd_, hsub_⟩
        · -- (!(decide (T.n < 2 * (hs42.length : Int)))) = true: false
          have t130 : (decide (T.n < 2 * (hs42.length : Int))) = true := by first | (simpa only [Bool.not_eq_true', Bool.not_eq_false'] using t130b) | simpa using t130b
          refine WC.cond_false rfl ?_
          refine WC.skip ?_
          refine QX.then_normal (hK120 _ _ ?_)
          refine WC.seq (fun K133 hK134 => ?_)
          refine WC.seq (fun K135 hK136 => ?_)
          refine WC.region ?_
          refine WL.runs 3 [(55, .pointer (some ⟨p, 4, none⟩)), (54, .pointer (some ⟨p, 0, none⟩)), (53, .pointer (some ⟨p, 0, none⟩))] (fun _ => by kernel_rfl) ?_
          refine WL.load 35 (.pointer (some ⟨p, 4, none⟩)) (.slice Aw T.want.length cw) 56 (by kernel_rfl) (run_ld (hC125.get 0 rfl) rfl) ?_
          refine WL.runs 2 [(58, .int .i64 0), (57, .int .i64 (T.want.length : Int))] (fun _ => by kernel_rfl) ?_
          refine WL.done rfl ?_
          refine QX.then_normal (hK136 _ _ ?_)
          refine WC.block ?_
          refine WC.loop (fun m_ E_ w_ => ∃ (i : Nat) (A5 : Option Addr) (n5 c5 : Nat) (L5 : List Cm), m_ = T.want.length - i ∧ E_ = [(0, .pointer (some ⟨p, 0, none⟩)), (8, .int .i64 0), (56, .slice Aw T.want.length cw), (57, .int .i64 (T.want.length : Int)), (58, .int .i64 (i : Int))] ∧ Cx w (p :: (blk (.slice Ah T.hv.length ch) ++ (blk (.slice Aw T.want.length cw) ++ blk (.slice Al T.log.length cl)))) w_ [(p, .cells #[.int .i64 T.n, .slice Ah40 hs42.length ch41, .int .i64 T.bn, .int .i64 T.bd, .slice Aw T.want.length cw, .int .i64 T.stage, .int .i64 an, .int .i64 ad, .slice A5 n5 c5] 77), (g3, .cells #[.int .i64 an, .int .i64 ad] 31)] [blk (.slice Ah40 hs42.length ch41), blk (.slice Aw T.want.length cw), blk (.slice Al T.log.length cl), blk (.slice A5 n5 c5)] ∧ World.ownsRow w_ 0 3 1 (.slice Ah40 hs42.length ch41) hs42.length (hs42.flatMap (Go.Tw.encI .i64)) ∧ World.ownsRow w_ 0 44 12 (.slice Aw T.want.length cw) T.want.length (T.want.flatMap cellsC) ∧ World.ownsRow w_ 0 44 12 (.slice Al T.log.length cl) T.log.length (T.log.flatMap cellsC) ∧ World.ownsRow w_ 0 44 12 (.slice A5 n5 c5) n5 (L5.flatMap cellsC) ∧ (i ≤ T.want.length ∧ fillL (T.want.drop i) L5 = fillL T.want log ∧ L5.length ≤ 1000 + i)) ⟨_, _, ⟨0, A91, log.length, c92, log, rfl, rfl, hC125, ho126, ho127, ho128, ho129, Nat.zero_le _, rfl, by have q_ := hok.2.2; omega⟩, sub_of ⟨rfl, rfl, rfl, rfl, rfl, trivial⟩⟩ (fun m140 E_ w141 K137 hK138 hI139 => ?_)
          obtain ⟨i, A5, n5, c5, L5, rfl, rfl, hC142, hv_m140, want_m140, log_m140, hlog5, hi, hfl, hL5⟩ := hI139
          have hcn_ := own_count cellsC_len (by decide) hlog5
          refine WC.seq (fun K143 hK144 => ?_)
          refine WC.region ?_
          refine WL.runs 1 [(59, .bool (decide ((i : Int) < (T.want.length : Int))))] (fun _ => by kernel_rfl) ?_
          refine WL.done rfl ?_
          refine QX.then_normal (hK144 _ _ ?_)
          refine WC.seq (fun K145 hK146 => ?_)
          refine WC.test_at 59 (decide ((i : Int) < (T.want.length : Int))) rfl (fun t147b => ?_) (fun t147b => ?_)
          · -- (i : Int) < (T.want.length : Int): true
            have t147 : (i : Int) < (T.want.length : Int) := by have q_ := of_decide_eq_true t147b; omega
            refine WC.cond_true rfl ?_
            refine WC.skip ?_
            refine QX.then_normal (hK146 _ _ ?_)
            refine WC.seq (fun K148 hK149 => ?_)
            refine WC.block ?_
            refine WC.seq (fun K150 hK151 => ?_)
            refine WC.region ?_
            have hn156 := own_count cellsC_len (by decide) want_m140
            obtain ⟨e152, he153⟩ := get_some (xs := T.want) (i := i) (by omega)
            obtain ⟨b154, hA155⟩ := own_addr (by decide) cellsC_len want_m140 he153
            refine WL.index Aw T.want.length cw 60 .i64 (i : Int) b154 0 i 12 (by kernel_rfl) hA155 (by omega) (by omega) (i * 12) (by first | (simp; done) | omega) ?_
            refine WL.load 44 (.pointer (some ⟨b154, i * 12, none⟩)) (.agg #[.int .i64 e152.node, .int .i64 e152.boot, .int .i64 e152.seq, .int .i64 e152.time, .int .i64 e152.kind, .int .u32 0, .int .i64 0, .int .i64 0, .slice none 0 0, .int .u32 e152.dip, .int .u32 e152.vip, .bool e152.up]) 61 (by kernel_rfl) (run_rdN (l := [.int .i64 e152.node, .int .i64 e152.boot, .int .i64 e152.seq, .int .i64 e152.time, .int .i64 e152.kind, .int .u32 0, .int .i64 0, .int .i64 0, .slice none 0 0, .int .u32 e152.dip, .int .u32 e152.vip, .bool e152.up]) rfl rfl (fun j u hu => by have hq_ := Rd.cell (own_rd want_m140 cellsC_len (by decide)) hA155 he153 j u hu; simpa [Nat.add_assoc] using hq_)) ?_
            refine WL.newM hC142 (fun b => .pointer (some ⟨b, 0, none⟩)) (.cells #[.int .i64 0, .int .i64 0, .int .i64 0, .int .i64 0, .int .i64 0, .int .u32 0, .int .i64 0, .int .i64 0, .slice none 0 0, .int .u32 0, .int .u32 0, .bool false] 44) 10 (fun _ => by kernel_rfl) (fun g157 w158 hb161 hF159 hC160 => ?_)
            have ho162 := own_fr hv_m140 hF159 (by simp)
            have ho163 := own_fr want_m140 hF159 (by simp)
            have ho164 := own_fr log_m140 hF159 (by simp)
            have ho165 := own_fr hlog5 hF159 (by simp)
            refine WL.storeM (c' := #[.int .i64 e152.node, .int .i64 e152.boot, .int .i64 e152.seq, .int .i64 e152.time, .int .i64 e152.kind, .int .u32 0, .int .i64 0, .int .i64 0, .slice none 0 0, .int .u32 e152.dip, .int .u32 e152.vip, .bool e152.up]) hC160 2 44 g157 0 (.agg #[.int .i64 e152.node, .int .i64 e152.boot, .int .i64 e152.seq, .int .i64 e152.time, .int .i64 e152.kind, .int .u32 0, .int .i64 0, .int .i64 0, .slice none 0 0, .int .u32 e152.dip, .int .u32 e152.vip, .bool e152.up]) (by kernel_rfl) rfl (by kernel_rfl) (fun w166 hF168 hC169 => ?_)
            have ho170 := own_fr ho162 hF168 (hC160.apartM 0 2 rfl rfl)
            have ho171 := own_fr ho163 hF168 (hC160.apartM 1 2 rfl rfl)
            have ho172 := own_fr ho164 hF168 (hC160.apartM 2 2 rfl rfl)
            have ho173 := own_fr ho165 hF168 (hC160.apartM 3 2 rfl rfl)
            refine WL.done rfl ?_
            refine QX.then_normal (hK151 _ _ ?_)
            refine WC.seq (fun K174 hK175 => ?_)
            refine WC.drawC hC169 [] (by kernel_rfl) (fun w176 hF177 hC178 hS179 => ?_)
            have ho180 := own_fr ho170 hF177 (by simp)
            have ho181 := own_fr ho171 hF177 (by simp)
            have ho182 := own_fr ho172 hF177 (by simp)
            have ho183 := own_fr ho173 hF177 (by simp)
            refine WD.pure (NoPanic.then (NoPanic.block (NoPanic.then (NoPanic.then (NoPanic.block (NoPanic.then hN)))))) 0 62 (.pointer (some ⟨p, 0, none⟩)) (by kernel_rfl) (fun _ => by kernel_rfl) hS179 ?_
            refine WD.pure (NoPanic.then (NoPanic.block (NoPanic.then (NoPanic.then (NoPanic.block (NoPanic.then hN)))))) 1 63 (.pointer (some ⟨p, 0, none⟩)) (by kernel_rfl) (fun _ => by kernel_rfl) hS179 ?_
            refine WD.pure (NoPanic.then (NoPanic.block (NoPanic.then (NoPanic.then (NoPanic.block (NoPanic.then hN)))))) 2 64 (.pointer (some ⟨p, 8, none⟩)) (by kernel_rfl) (fun _ => by kernel_rfl) hS179 ?_
            refine WD.load (NoPanic.then (NoPanic.block (NoPanic.then (NoPanic.then (NoPanic.block (NoPanic.then hN)))))) 3 35 (.pointer (some ⟨p, 8, none⟩)) (.slice A5 n5 c5) 65 (by kernel_rfl) (by kernel_rfl) (fun _ hS_ => run_ld (Fr.has hS_ (hC178.get 0 rfl) (by simp)) rfl) hS179 ?_
            refine WD.load (NoPanic.then (NoPanic.block (NoPanic.then (NoPanic.then (NoPanic.block (NoPanic.then hN)))))) 4 44 (.pointer (some ⟨g157, 0, none⟩)) (.agg #[.int .i64 e152.node, .int .i64 e152.boot, .int .i64 e152.seq, .int .i64 e152.time, .int .i64 e152.kind, .int .u32 0, .int .i64 0, .int .i64 0, .slice none 0 0, .int .u32 e152.dip, .int .u32 e152.vip, .bool e152.up]) 66 (by kernel_rfl) (by kernel_rfl) (fun _ hS_ => run_ld (Fr.has hS_ (hC178.get 2 rfl) (by simp)) rfl) hS179 ?_
            refine WD.call 5 (by kernel_rfl) rfl rfl rfl rfl rfl (by kernel_rfl) (place_n e152 A5 n5 c5 L5 w176 (own_rd ho183 cellsC_len (by decide)) (own_count cellsC_len (by decide) ho183) (by first | (simp; done) | omega)) ?_
            rintro _ w185 ⟨rfl, hF184⟩
            have hS187 := hS179.trans hF184 (by simp)
            refine ⟨_, rfl, hS187, ?_⟩
            have hC186 := hC178.call hF184
            have ho188 := own_fr ho180 hF184 (by simp)
            have ho189 := own_fr ho181 hF184 (by simp)
            have ho190 := own_fr ho182 hF184 (by simp)
            have ho191 := own_fr ho183 hF184 (by simp)
            refine WD.pure (NoPanic.then (NoPanic.block (NoPanic.then (NoPanic.then (NoPanic.block (NoPanic.then hN)))))) 6 68 (.bool ((placeN L5 e152) == 0)) (by kernel_rfl) (fun _ => by kernel_rfl) hS187 ?_
            refine WD.done (by kernel_rfl) ?_
            refine QX.then_normal (hK175 _ _ ?_)
            refine WC.test_at 68 ((placeN L5 e152) == 0) rfl (fun t192b => ?_) (fun t192b => ?_)
            · -- (placeN L5 e152) = 0: true
              have t192 : (placeN L5 e152) = 0 := by simpa using t192b
              refine WC.cond_true rfl ?_
              refine WC.drawC hC186 (p :: blk (.slice A5 n5 c5)) (by kernel_rfl) (fun w193 hF194 hC195 hS196 => ?_)
              have ho197 := own_fr ho188 hF194 (by simp)
              have ho198 := own_fr ho189 hF194 (by simp)
              have ho199 := own_fr ho190 hF194 (by simp)
              have ho200 := own_fr ho191 hF194 (by simp)
              refine WD.pure (NoPanic.block (NoPanic.then (NoPanic.then (NoPanic.block (NoPanic.then hN))))) 0 69 (.pointer (some ⟨p, 0, none⟩)) (by kernel_rfl) (fun _ => by kernel_rfl) hS196 ?_
              refine WD.pure (NoPanic.block (NoPanic.then (NoPanic.then (NoPanic.block (NoPanic.then hN))))) 1 70 (.pointer (some ⟨p, 0, none⟩)) (by kernel_rfl) (fun _ => by kernel_rfl) hS196 ?_
              refine WD.pure (NoPanic.block (NoPanic.then (NoPanic.then (NoPanic.block (NoPanic.then hN))))) 2 71 (.pointer (some ⟨p, 0, none⟩)) (by kernel_rfl) (fun _ => by kernel_rfl) hS196 ?_
              refine WD.pure (NoPanic.block (NoPanic.then (NoPanic.then (NoPanic.block (NoPanic.then hN))))) 3 72 (.pointer (some ⟨p, 8, none⟩)) (by kernel_rfl) (fun _ => by kernel_rfl) hS196 ?_
              refine WD.load (NoPanic.block (NoPanic.then (NoPanic.then (NoPanic.block (NoPanic.then hN))))) 5 44 (.pointer (some ⟨g157, 0, none⟩)) (.agg #[.int .i64 e152.node, .int .i64 e152.boot, .int .i64 e152.seq, .int .i64 e152.time, .int .i64 e152.kind, .int .u32 0, .int .i64 0, .int .i64 0, .slice none 0 0, .int .u32 e152.dip, .int .u32 e152.vip, .bool e152.up]) 74 (by kernel_rfl) (by kernel_rfl) (fun _ hS_ => run_ld (Fr.has hS_ (hC195.get 2 rfl) (fun h_ => (List.mem_cons.1 h_).elim (hC195.ne 2 0 rfl rfl (by decide)) (hC195.notin 3 2 rfl rfl))) rfl) hS196 ?_
              refine WD.all2 4 6 (by kernel_rfl) ?_ ?_
              · -- operation 4 comes first
                refine WO.sem 4 (Instr.loadAt 35 (.pointer (some ⟨p, 8, none⟩))) 73 (.slice A5 n5 c5) (by kernel_rfl) (by kernel_rfl) (run_ld (hC195.get 0 rfl) rfl) hS196 ?_
                refine WD.new 6 (fun b => .slice (some ⟨b, 0, none⟩) 1 1) (.cells #[.int .i64 e152.node, .int .i64 e152.boot, .int .i64 e152.seq, .int .i64 e152.time, .int .i64 e152.kind, .int .u32 0, .int .i64 0, .int .i64 0, .slice none 0 0, .int .u32 e152.dip, .int .u32 e152.vip, .bool e152.up] 44) (by kernel_rfl) rfl rfl rfl rfl rfl (fun _ => by kernel_rfl) (fun g201 w202 hb205 hl206 hF203 ho207 => ?_)
                have hC204 := hC195.callB hF203 hb205 ho207
                have hS208 := hS196.trans hF203 (by simp)
                refine ⟨hS208, ?_⟩
                have ho209 := own_fr ho197 hF203 (by simp)
                have ho210 := own_fr ho198 hF203 (by simp)
                have ho211 := own_fr ho199 hF203 (by simp)
                have ho212 := own_fr ho200 hF203 (by simp)
                obtain ⟨v213, w214, hr215, ho216, hF217, hC218, hnil219, hsub220⟩ := app_run Try.prog hC204 3 (v := .slice A5 n5 c5) rfl 35 35 44 12 104 n5 1 1 (some ⟨g201, 0, none⟩) rfl ho212 [.int .i64 e152.node, .int .i64 e152.boot, .int .i64 e152.seq, .int .i64 e152.time, .int .i64 e152.kind, .int .u32 0, .int .i64 0, .int .i64 0, .slice none 0 0, .int .u32 e152.dip, .int .u32 e152.vip, .bool e152.up] rfl (srcOk.blk 1 (hC204.get 3 rfl)) rfl (by simp only [maxLen]; omega) (by omega)
                have ho224 := own_snoc (enc := cellsC) (ys := L5) e152 ho216
                obtain ⟨A221, c222, rfl, hle223⟩ := own_form ho224
                have hS225 := hS208.trans hF217 (fun x_ hx_ => .inl (List.mem_cons_of_mem _ hx_))
                refine WD.sem 7 (Builtin.append_ #[35, 35] 35 #[.slice A5 n5 c5, .slice (some ⟨g201, 0, none⟩) 1 1]) 76 (.slice A221 (n5 + 1) c222) (by kernel_rfl) (by kernel_rfl) hr215 hS225 ?_
                have ho226 := own_fr ho209 hF217 (hC204.disj 0 3 rfl rfl (by decide))
                have ho227 := own_fr ho210 hF217 (hC204.disj 1 3 rfl rfl (by decide))
                have ho228 := own_fr ho211 hF217 (hC204.disj 2 3 rfl rfl (by decide))
                refine WD.pure (NoPanic.block (NoPanic.then (NoPanic.then (NoPanic.block (NoPanic.then hN))))) 8 77 (.pointer (some ⟨p, 0, none⟩)) (by kernel_rfl) (fun _ => by kernel_rfl) hS225 ?_
                refine WD.pure (NoPanic.block (NoPanic.then (NoPanic.then (NoPanic.block (NoPanic.then hN))))) 9 78 (.pointer (some ⟨p, 8, none⟩)) (by kernel_rfl) (fun _ => by kernel_rfl) hS225 ?_
                obtain ⟨w229, hr230, hF231, hC232⟩ := sto_run (c' := #[.int .i64 T.n, .slice Ah40 hs42.length ch41, .int .i64 T.bn, .int .i64 T.bd, .slice Aw T.want.length cw, .int .i64 T.stage, .int .i64 an, .int .i64 ad, .slice A221 (n5 + 1) c222]) Try.prog hC218 0 35 p 8 (.slice A221 (n5 + 1) c222) rfl (by kernel_rfl)
                have hS233 := hS225.trans hF231 (by first | (simp; done) | (simp [*]; done) | (have q_ := hS225.size; simp; omega))
                refine WD.semU 10 (Instr.storeAt 35 (.pointer (some ⟨p, 8, none⟩)) (.slice A221 (n5 + 1) c222)) (by kernel_rfl) (by kernel_rfl) hr230 hS233 ?_
                have ho234 := own_fr ho226 hF231 (hC218.apartM 0 0 rfl rfl)
                have ho235 := own_fr ho227 hF231 (hC218.apartM 1 0 rfl rfl)
                have ho236 := own_fr ho228 hF231 (hC218.apartM 2 0 rfl rfl)
                have ho237 := own_fr ho224 hF231 (hC218.apartM 3 0 rfl rfl)
                refine WD.done (by kernel_rfl) ?_
                refine QX.block_normal ?_
                refine QX.then_normal (hK149 _ _ ?_)
                refine WC.region ?_
                refine WL.runs 1 [(79, .int .i64 (IntKind.i64.wrap ((i : Int) + 1)))] (fun _ => by kernel_rfl) ?_
                refine WL.recast (show (.int .i64 (IntKind.i64.wrap ((i : Int) + 1)) : Value) = .int .i64 ((i : Int) + 1) from by rw [wrap_in_i64 ((i : Int) + 1) (by omega) (by omega)]) ?_
                refine WL.runs 1 [(58, .int .i64 ((i : Int) + 1))] (fun _ => by kernel_rfl) ?_
                refine WL.done rfl ?_
                refine QX.then_normal ?_
                have hC238 := hC232.pick [0, 1] [0, 1, 2, 3] rfl rfl
                refine fun a_ ha_ => hK138 _ _ _ ?_ ⟨i + 1, A221, n5 + 1, c222, L5 ++ [e152], rfl, rfl, hC238, ho234, ho235, ho236, ho237, by omega, by rw [← hfl, fill_step he153, if_pos (by assumption)], by first | omega | (rw [List.length_append]; simp only [List.length_cons, List.length_nil]; omega)⟩ a_ (ha_.weaken (sub_of ⟨rfl, rfl, rfl, rfl, rfl, trivial⟩))
                omega
              · -- operation 6 comes first
                refine WO.new 6 (fun b => .slice (some ⟨b, 0, none⟩) 1 1) (.cells #[.int .i64 e152.node, .int .i64 e152.boot, .int .i64 e152.seq, .int .i64 e152.time, .int .i64 e152.kind, .int .u32 0, .int .i64 0, .int .i64 0, .slice none 0 0, .int .u32 e152.dip, .int .u32 e152.vip, .bool e152.up] 44) (by kernel_rfl) rfl rfl rfl rfl rfl (fun _ => by kernel_rfl) (fun g239 w240 hb243 hl244 hF241 ho245 => ?_)
                have hC242 := hC195.callB hF241 hb243 ho245
                have hS246 := hS196.trans hF241 (by simp)
                refine ⟨hS246, ?_⟩
                have ho247 := own_fr ho197 hF241 (by simp)
                have ho248 := own_fr ho198 hF241 (by simp)
                have ho249 := own_fr ho199 hF241 (by simp)
                have ho250 := own_fr ho200 hF241 (by simp)
                refine WD.sem 4 (Instr.loadAt 35 (.pointer (some ⟨p, 8, none⟩))) 73 (.slice A5 n5 c5) (by kernel_rfl) (by kernel_rfl) (run_ld (hC242.get 0 rfl) rfl) hS246 ?_
                obtain ⟨v251, w252, hr253, ho254, hF255, hC256, hnil257, hsub258⟩ := app_run Try.prog hC242 3 (v := .slice A5 n5 c5) rfl 35 35 44 12 104 n5 1 1 (some ⟨g239, 0, none⟩) rfl ho250 [.int .i64 e152.node, .int .i64 e152.boot, .int .i64 e152.seq, .int .i64 e152.time, .int .i64 e152.kind, .int .u32 0, .int .i64 0, .int .i64 0, .slice none 0 0, .int .u32 e152.dip, .int .u32 e152.vip, .bool e152.up] rfl (srcOk.blk 1 (hC242.get 3 rfl)) rfl (by simp only [maxLen]; omega) (by omega)
                have ho262 := own_snoc (enc := cellsC) (ys := L5) e152 ho254
                obtain ⟨A259, c260, rfl, hle261⟩ := own_form ho262
                have hS263 := hS246.trans hF255 (fun x_ hx_ => .inl (List.mem_cons_of_mem _ hx_))
                refine WD.sem 7 (Builtin.append_ #[35, 35] 35 #[.slice A5 n5 c5, .slice (some ⟨g239, 0, none⟩) 1 1]) 76 (.slice A259 (n5 + 1) c260) (by kernel_rfl) (by kernel_rfl) hr253 hS263 ?_
                have ho264 := own_fr ho247 hF255 (hC242.disj 0 3 rfl rfl (by decide))
                have ho265 := own_fr ho248 hF255 (hC242.disj 1 3 rfl rfl (by decide))
                have ho266 := own_fr ho249 hF255 (hC242.disj 2 3 rfl rfl (by decide))
                refine WD.pure (NoPanic.block (NoPanic.then (NoPanic.then (NoPanic.block (NoPanic.then hN))))) 8 77 (.pointer (some ⟨p, 0, none⟩)) (by kernel_rfl) (fun _ => by kernel_rfl) hS263 ?_
                refine WD.pure (NoPanic.block (NoPanic.then (NoPanic.then (NoPanic.block (NoPanic.then hN))))) 9 78 (.pointer (some ⟨p, 8, none⟩)) (by kernel_rfl) (fun _ => by kernel_rfl) hS263 ?_
                obtain ⟨w267, hr268, hF269, hC270⟩ := sto_run (c' := #[.int .i64 T.n, .slice Ah40 hs42.length ch41, .int .i64 T.bn, .int .i64 T.bd, .slice Aw T.want.length cw, .int .i64 T.stage, .int .i64 an, .int .i64 ad, .slice A259 (n5 + 1) c260]) Try.prog hC256 0 35 p 8 (.slice A259 (n5 + 1) c260) rfl (by kernel_rfl)
                have hS271 := hS263.trans hF269 (by first | (simp; done) | (simp [*]; done) | (have q_ := hS263.size; simp; omega))
                refine WD.semU 10 (Instr.storeAt 35 (.pointer (some ⟨p, 8, none⟩)) (.slice A259 (n5 + 1) c260)) (by kernel_rfl) (by kernel_rfl) hr268 hS271 ?_
                have ho272 := own_fr ho264 hF269 (hC256.apartM 0 0 rfl rfl)
                have ho273 := own_fr ho265 hF269 (hC256.apartM 1 0 rfl rfl)
                have ho274 := own_fr ho266 hF269 (hC256.apartM 2 0 rfl rfl)
                have ho275 := own_fr ho262 hF269 (hC256.apartM 3 0 rfl rfl)
                refine WD.done (by kernel_rfl) ?_
                refine QX.block_normal ?_
                refine QX.then_normal (hK149 _ _ ?_)
                refine WC.region ?_
                refine WL.runs 1 [(79, .int .i64 (IntKind.i64.wrap ((i : Int) + 1)))] (fun _ => by kernel_rfl) ?_
                refine WL.recast (show (.int .i64 (IntKind.i64.wrap ((i : Int) + 1)) : Value) = .int .i64 ((i : Int) + 1) from by rw [wrap_in_i64 ((i : Int) + 1) (by omega) (by omega)]) ?_
                refine WL.runs 1 [(58, .int .i64 ((i : Int) + 1))] (fun _ => by kernel_rfl) ?_
                refine WL.done rfl ?_
                refine QX.then_normal ?_
                have hC276 := hC270.pick [0, 1] [0, 1, 2, 3] rfl rfl
                refine fun a_ ha_ => hK138 _ _ _ ?_ ⟨i + 1, A259, n5 + 1, c260, L5 ++ [e152], rfl, rfl, hC276, ho272, ho273, ho274, ho275, by omega, by rw [← hfl, fill_step he153, if_pos (by assumption)], by first | omega | (rw [List.length_append]; simp only [List.length_cons, List.length_nil]; omega)⟩ a_ (ha_.weaken (sub_of ⟨rfl, rfl, rfl, rfl, rfl, trivial⟩))
                omega
            · -- (placeN L5 e152) = 0: false
              have t192 : ¬ ((placeN L5 e152) = 0) := by simpa using t192b
              refine WC.cond_false rfl ?_
              refine WC.skip ?_
              refine QX.block_normal ?_
              refine QX.then_normal (hK149 _ _ ?_)
              refine WC.region ?_
              refine WL.runs 1 [(79, .int .i64 (IntKind.i64.wrap ((i : Int) + 1)))] (fun _ => by kernel_rfl) ?_
              refine WL.recast (show (.int .i64 (IntKind.i64.wrap ((i : Int) + 1)) : Value) = .int .i64 ((i : Int) + 1) from by rw [wrap_in_i64 ((i : Int) + 1) (by omega) (by omega)]) ?_
              refine WL.runs 1 [(58, .int .i64 ((i : Int) + 1))] (fun _ => by kernel_rfl) ?_
              refine WL.done rfl ?_
              refine QX.then_normal ?_
              have hC277 := hC186.pick [0, 1] [0, 1, 2, 3] rfl rfl
              refine fun a_ ha_ => hK138 _ _ _ ?_ ⟨i + 1, A5, n5, c5, L5, rfl, rfl, hC277, ho188, ho189, ho190, ho191, by omega, by rw [← hfl, fill_step he153, if_neg (by assumption)], by first | omega | (rw [List.length_append]; simp only [List.length_cons, List.length_nil]; omega)⟩ a_ (ha_.weaken (sub_of ⟨rfl, rfl, rfl, rfl, rfl, trivial⟩))
              omega
          · -- (i : Int) < (T.want.length : Int): false
            have t147 : (T.want.length : Int) ≤ (i : Int) := by have q_ := of_decide_eq_false t147b; omega
            refine WC.cond_false rfl ?_
            refine WC.exit ?_
            refine QX.then_exit ?_
            refine QX.then_exit ?_
            refine QX.block_hit ?_
            refine QX.then_normal (hK134 _ _ ?_)
            refine WC.seq (fun K278 hK279 => ?_)
            refine WC.region ?_
            refine WL.runs 4 [(83, .pointer (some ⟨p, 1, none⟩)), (82, .pointer (some ⟨p, 0, none⟩)), (81, .pointer (some ⟨p, 0, none⟩)), (80, .pointer (some ⟨p, 0, none⟩))] (fun _ => by kernel_rfl) ?_
            refine WL.storeM (c' := #[.int .i64 T.n, .slice none 0 0, .int .i64 T.bn, .int .i64 T.bd, .slice Aw T.want.length cw, .int .i64 T.stage, .int .i64 an, .int .i64 ad, .slice A5 n5 c5]) hC142 0 22 p 1 (.slice none 0 0) (by kernel_rfl) rfl (by kernel_rfl) (fun w280 hF282 hC283 => ?_)
            have ho284 := own_fr hv_m140 hF282 (hC142.apartM 0 0 rfl rfl)
            have ho285 := own_fr want_m140 hF282 (hC142.apartM 1 0 rfl rfl)
            have ho286 := own_fr log_m140 hF282 (hC142.apartM 2 0 rfl rfl)
            have ho287 := own_fr hlog5 hF282 (hC142.apartM 3 0 rfl rfl)
            refine WL.done rfl ?_
            refine QX.then_normal (hK279 _ _ ?_)
            refine WC.seq (fun K288 hK289 => ?_)
            refine WC.region ?_
            refine WL.runs 3 [(86, .pointer (some ⟨p, 5, none⟩)), (85, .pointer (some ⟨p, 0, none⟩)), (84, .pointer (some ⟨p, 0, none⟩))] (fun _ => by kernel_rfl) ?_
            refine WL.storeM (c' := #[.int .i64 T.n, .slice none 0 0, .int .i64 T.bn, .int .i64 T.bd, .slice Aw T.want.length cw, .int .i64 2, .int .i64 an, .int .i64 ad, .slice A5 n5 c5]) hC283 0 3 p 5 (.int .i64 2) (by kernel_rfl) rfl (by kernel_rfl) (fun w290 hF292 hC293 => ?_)
            have ho294 := own_fr ho284 hF292 (hC283.apartM 0 0 rfl rfl)
            have ho295 := own_fr ho285 hF292 (hC283.apartM 1 0 rfl rfl)
            have ho296 := own_fr ho286 hF292 (hC283.apartM 2 0 rfl rfl)
            have ho297 := own_fr ho287 hF292 (hC283.apartM 3 0 rfl rfl)
            refine WL.done rfl ?_
            refine QX.then_normal (hK289 _ _ ?_)
            refine WC.seq (fun K298 hK299 => ?_)
            refine WC.seq (fun K300 hK301 => ?_)
            refine WC.region ?_
            refine WL.runs 3 [(89, .pointer (some ⟨p, 8, none⟩)), (88, .pointer (some ⟨p, 0, none⟩)), (87, .pointer (some ⟨p, 0, none⟩))] (fun _ => by kernel_rfl) ?_
            refine WL.load 35 (.pointer (some ⟨p, 8, none⟩)) (.slice A5 n5 c5) 90 (by kernel_rfl) (run_ld (hC293.get 0 rfl) rfl) ?_
            refine WL.runs 2 [(92, .bool (decide ((n5 : Int) > 256))), (91, .int .i64 (n5 : Int))] (fun _ => by kernel_rfl) ?_
            refine WL.done rfl ?_
            refine QX.then_normal (hK301 _ _ ?_)
            refine WC.test_at 92 (decide ((n5 : Int) > 256)) rfl (fun t302b => ?_) (fun t302b => ?_)
            · -- (n5 : Int) > 256: true
              have t302 : (256 : Int) < (n5 : Int) := by have q_ := of_decide_eq_true t302b; omega
              refine WC.cond_true rfl ?_
              refine WC.region ?_
              refine WL.runs 3 [(95, .pointer (some ⟨p, 5, none⟩)), (94, .pointer (some ⟨p, 0, none⟩)), (93, .pointer (some ⟨p, 0, none⟩))] (fun _ => by kernel_rfl) ?_
              refine WL.storeM (c' := #[.int .i64 T.n, .slice none 0 0, .int .i64 T.bn, .int .i64 T.bd, .slice Aw T.want.length cw, .int .i64 4, .int .i64 an, .int .i64 ad, .slice A5 n5 c5]) hC293 0 3 p 5 (.int .i64 4) (by kernel_rfl) rfl (by kernel_rfl) (fun w303 hF305 hC306 => ?_)
              have ho307 := own_fr ho294 hF305 (hC293.apartM 0 0 rfl rfl)
              have ho308 := own_fr ho295 hF305 (hC293.apartM 1 0 rfl rfl)
              have ho309 := own_fr ho296 hF305 (hC293.apartM 2 0 rfl rfl)
              have ho310 := own_fr ho297 hF305 (hC293.apartM 3 0 rfl rfl)
              refine WL.done rfl ?_
              refine QX.then_normal (hK299 _ _ ?_)
              refine WC.seq (fun K311 hK312 => ?_)
              refine WC.region ?_
              refine WL.runs 3 [(98, .pointer (some ⟨p, 5, none⟩)), (97, .pointer (some ⟨p, 0, none⟩)), (96, .pointer (some ⟨p, 0, none⟩))] (fun _ => by kernel_rfl) ?_
              refine WL.load 3 (.pointer (some ⟨p, 5, none⟩)) (.int .i64 4) 99 (by kernel_rfl) (run_ld (hC306.get 0 rfl) rfl) ?_
              refine WL.runs 1 [(8, .int .i64 4)] (fun _ => by kernel_rfl) ?_
              refine WL.done rfl ?_
              refine QX.then_normal (hK312 _ _ ?_)
              refine WC.ret ?_
              refine (hret _ _ _ rfl ?_).1
              clear hN hret hret' hK312 hK301 hK299 hK289 hK279 hK146 hK144 hK136 hK134 hK122 hK120 hK64 hK62 hK15 hK13 hK2
              have hmo_ : T.n < 2 * ((T.hv.length : Int) + 1) := by have q_ := of_decide_eq_true t130; rw [hse49, t52] at q_; simp only [if_true, List.length_append, List.length_cons, List.length_nil] at q_; omega
              have hie_ : i = T.want.length := by omega
              rw [hie_, List.drop_length, fill_nil] at hfl
              have hcm_ := own_count cellsC_len (by decide) ho310
              have hC313 := hC306.addNil
              obtain ⟨F2_, hrd_, hsub_⟩ := rd_close (T := (⟨T.n, [], T.bn, T.bd, T.want, 4, an, ad, L5⟩ : Rn)) hC313 0 4 1 3 rfl rfl rfl rfl (own_nil _ _ _ _) ho308 ho310 (by decide) (by decide) (by decide)
              have hpt_ := prom_all (log := log) (by simpa using t23b) t52 hmo_ true (show lessB T.sn T.sd an ad = true from t79b) L5 (by simp only [if_true, Bool.false_eq_true, if_false]; exact hfl.symm) 4 (by first | (rw [if_pos (by omega)]; done) | (rw [if_neg (by omega)]; done))
              simp only [if_true, Bool.false_eq_true, if_false] at hpt_
              rw [hpt_]
              exact ⟨F2_, rfl, hC313.fr, hrd_, hsub_⟩
            · -- (n5 : Int) > 256: false
              have t302 : (n5 : Int) ≤ 256 := by have q_ := of_decide_eq_false t302b; omega
              refine WC.cond_false rfl ?_
              refine WC.skip ?_
              refine QX.then_normal (hK299 _ _ ?_)
              refine WC.seq (fun K314 hK315 => ?_)
              refine WC.region ?_
              refine WL.runs 3 [(98, .pointer (some ⟨p, 5, none⟩)), (97, .pointer (some ⟨p, 0, none⟩)), (96, .pointer (some ⟨p, 0, none⟩))] (fun _ => by kernel_rfl) ?_
              refine WL.load 3 (.pointer (some ⟨p, 5, none⟩)) (.int .i64 2) 99 (by kernel_rfl) (run_ld (hC293.get 0 rfl) rfl) ?_
              refine WL.runs 1 [(8, .int .i64 2)] (fun _ => by kernel_rfl) ?_
              refine WL.done rfl ?_
              refine QX.then_normal (hK315 _ _ ?_)
              refine WC.ret ?_
              refine (hret _ _ _ rfl ?_).1
              clear hN hret hret' hK315 hK301 hK299 hK289 hK279 hK146 hK144 hK136 hK134 hK122 hK120 hK64 hK62 hK15 hK13 hK2
              have hmo_ : T.n < 2 * ((T.hv.length : Int) + 1) := by have q_ := of_decide_eq_true t130; rw [hse49, t52] at q_; simp only [if_true, List.length_append, List.length_cons, List.length_nil] at q_; omega
              have hie_ : i = T.want.length := by omega
              rw [hie_, List.drop_length, fill_nil] at hfl
              have hcm_ := own_count cellsC_len (by decide) ho297
              have hC316 := hC293.addNil
              obtain ⟨F2_, hrd_, hsub_⟩ := rd_close (T := (⟨T.n, [], T.bn, T.bd, T.want, 2, an, ad, L5⟩ : Rn)) hC316 0 4 1 3 rfl rfl rfl rfl (own_nil _ _ _ _) ho295 ho297 (by decide) (by decide) (by decide)
              have hpt_ := prom_all (log := log) (by simpa using t23b) t52 hmo_ true (show lessB T.sn T.sd an ad = true from t79b) L5 (by simp only [if_true, Bool.false_eq_true, if_false]; exact hfl.symm) 2 (by first | (rw [if_pos (by omega)]; done) | (rw [if_neg (by omega)]; done))
              simp only [if_true, Bool.false_eq_true, if_false] at hpt_
              rw [hpt_]
              exact ⟨F2_, rfl, hC316.fr, hrd_, hsub_⟩
      · -- (decide (orI [cmpI T.sn an, cmpI T.sd ad] < 0)) = true: false
        refine WC.cond_false rfl ?_
        refine WC.skip ?_
        refine QX.then_normal (hK62 _ _ ?_)
        refine WC.seq (fun K317 hK318 => ?_)
        refine WC.seq (fun K319 hK320 => ?_)
        refine WC.region ?_
        refine WL.runs 3 [(46, .pointer (some ⟨p, 0, none⟩)), (45, .pointer (some ⟨p, 0, none⟩)), (44, .pointer (some ⟨p, 0, none⟩))] (fun _ => by kernel_rfl) ?_
        refine WL.call rfl rfl rfl rfl rfl (by kernel_rfl) (most_ct p T.n Ah40 ch41 hs42 (.int .i64 T.bn) (.int .i64 T.bd) (.slice Aw T.want.length cw) (.int .i64 T.stage) (.int .i64 T.sn) (.int .i64 T.sd) (.slice Al T.log.length cl) w73 (hC74.get 0 rfl) ho76 (hC74.notin 0 0 rfl rfl) (by omega) (by omega) (by omega)) ?_
        rintro _ w322 ⟨rfl, hF321⟩
        refine ⟨_, rfl, ?_⟩
        have hC323 := hC74.call hF321
        have ho324 := own_fr ho76 hF321 (by simp)
        have ho325 := own_fr ho77 hF321 (by simp)
        have ho326 := own_fr ho78 hF321 (by simp)
        refine WL.runs 1 [(48, .bool (!(decide (T.n < 2 * (hs42.length : Int)))))] (fun _ => by kernel_rfl) ?_
        refine WL.done rfl ?_
        refine QX.then_normal (hK320 _ _ ?_)
        refine WC.test_at 48 (!(decide (T.n < 2 * (hs42.length : Int)))) rfl (fun t327b => ?_) (fun t327b => ?_)
        · -- (!(decide (T.n < 2 * (hs42.length : Int)))) = true: true
          have t327 : (decide (T.n < 2 * (hs42.length : Int))) = false := by first | (simpa only [Bool.not_eq_true', Bool.not_eq_false'] using t327b) | simpa using t327b
          refine WC.cond_true rfl ?_
          refine WC.seq (fun K328 hK329 => ?_)
          refine WC.region ?_
          refine WL.runs 3 [(51, .pointer (some ⟨p, 5, none⟩)), (50, .pointer (some ⟨p, 0, none⟩)), (49, .pointer (some ⟨p, 0, none⟩))] (fun _ => by kernel_rfl) ?_
          refine WL.load 3 (.pointer (some ⟨p, 5, none⟩)) (.int .i64 T.stage) 52 (by kernel_rfl) (run_ld (hC323.get 0 rfl) rfl) ?_
          refine WL.runs 1 [(8, .int .i64 T.stage)] (fun _ => by kernel_rfl) ?_
          refine WL.done rfl ?_
          refine QX.then_normal (hK329 _ _ ?_)
          refine WC.ret ?_
          refine QX.then_ret ?_
          refine (hret _ _ _ rfl ?_).1
          clear hN hret hret' hK329 hK320 hK318 hK64 hK62 hK15 hK13 hK2
          have hmo_ : ¬ (T.n < 2 * ((T.hv.length : Int) + 1)) := by have q_ := of_decide_eq_false t327; rw [hse49, t52] at q_; simp only [if_true, List.length_append, List.length_cons, List.length_nil] at q_; omega
          rw [t52] at hse49
          simp only [if_true, Bool.false_eq_true, if_false] at hse49
          subst hse49
          obtain ⟨F2_, hrd_, hsub_⟩ := rd_close (T := (⟨T.n, T.hv ++ [node], T.bn, T.bd, T.want, T.stage, T.sn, T.sd, T.log⟩ : Rn)) hC323 0 0 1 2 rfl rfl rfl rfl ho324 ho325 ho326 (by decide) (by decide) (by decide)
          have hpt_ := prom_few (log := log) (by simpa using t23b) t52 hmo_ false (show lessB T.sn T.sd an ad = false from t79b)
          simp only [if_true, Bool.false_eq_true, if_false] at hpt_
          rw [hpt_]
          exact ⟨F2_, rfl, hC323.fr, hrd_, hsub_⟩
        · -- (!(decide (T.n < 2 * (hs42.length : Int)))) = true: false
          have t327 : (decide (T.n < 2 * (hs42.length : Int))) = true := by first | (simpa only [Bool.not_eq_true', Bool.not_eq_false'] using t327b) | simpa using t327b
          refine WC.cond_false rfl ?_
          refine WC.skip ?_
          refine QX.then_normal (hK318 _ _ ?_)
          refine WC.seq (fun K330 hK331 => ?_)
          refine WC.seq (fun K332 hK333 => ?_)
          refine WC.region ?_
          refine WL.runs 3 [(55, .pointer (some ⟨p, 4, none⟩)), (54, .pointer (some ⟨p, 0, none⟩)), (53, .pointer (some ⟨p, 0, none⟩))] (fun _ => by kernel_rfl) ?_
          refine WL.load 35 (.pointer (some ⟨p, 4, none⟩)) (.slice Aw T.want.length cw) 56 (by kernel_rfl) (run_ld (hC323.get 0 rfl) rfl) ?_
          refine WL.runs 2 [(58, .int .i64 0), (57, .int .i64 (T.want.length : Int))] (fun _ => by kernel_rfl) ?_
          refine WL.done rfl ?_
          refine QX.then_normal (hK333 _ _ ?_)
          refine WC.block ?_
          refine WC.loop (fun m_ E_ w_ => ∃ (i : Nat) (A5 : Option Addr) (n5 c5 : Nat) (L5 : List Cm), m_ = T.want.length - i ∧ E_ = [(0, .pointer (some ⟨p, 0, none⟩)), (8, .int .i64 0), (56, .slice Aw T.want.length cw), (57, .int .i64 (T.want.length : Int)), (58, .int .i64 (i : Int))] ∧ Cx w (p :: (blk (.slice Ah T.hv.length ch) ++ (blk (.slice Aw T.want.length cw) ++ blk (.slice Al T.log.length cl)))) w_ [(p, .cells #[.int .i64 T.n, .slice Ah40 hs42.length ch41, .int .i64 T.bn, .int .i64 T.bd, .slice Aw T.want.length cw, .int .i64 T.stage, .int .i64 T.sn, .int .i64 T.sd, .slice A5 n5 c5] 77), (g3, .cells #[.int .i64 an, .int .i64 ad] 31)] [blk (.slice Ah40 hs42.length ch41), blk (.slice Aw T.want.length cw), blk (.slice A5 n5 c5)] ∧ World.ownsRow w_ 0 3 1 (.slice Ah40 hs42.length ch41) hs42.length (hs42.flatMap (Go.Tw.encI .i64)) ∧ World.ownsRow w_ 0 44 12 (.slice Aw T.want.length cw) T.want.length (T.want.flatMap cellsC) ∧ World.ownsRow w_ 0 44 12 (.slice A5 n5 c5) n5 (L5.flatMap cellsC) ∧ (i ≤ T.want.length ∧ fillL (T.want.drop i) L5 = fillL T.want T.log ∧ L5.length ≤ 1000 + i)) ⟨_, _, ⟨0, Al, T.log.length, cl, T.log, rfl, rfl, hC323, ho324, ho325, ho326, Nat.zero_le _, rfl, by have q_ := hok.2.2; omega⟩, sub_of ⟨rfl, rfl, rfl, rfl, rfl, trivial⟩⟩ (fun m337 E_ w338 K334 hK335 hI336 => ?_)
          obtain ⟨i, A5, n5, c5, L5, rfl, rfl, hC339, hv_m337, want_m337, hlog5, hi, hfl, hL5⟩ := hI336
          have hcn_ := own_count cellsC_len (by decide) hlog5
          refine WC.seq (fun K340 hK341 => ?_)
          refine WC.region ?_
          refine WL.runs 1 [(59, .bool (decide ((i : Int) < (T.want.length : Int))))] (fun _ => by kernel_rfl) ?_
          refine WL.done rfl ?_
          refine QX.then_normal (hK341 _ _ ?_)
          refine WC.seq (fun K342 hK343 => ?_)
          refine WC.test_at 59 (decide ((i : Int) < (T.want.length : Int))) rfl (fun t344b => ?_) (fun t344b => ?_)
          · -- (i : Int) < (T.want.length : Int): true
            have t344 : (i : Int) < (T.want.length : Int) := by have q_ := of_decide_eq_true t344b; omega
            refine WC.cond_true rfl ?_
            refine WC.skip ?_
            refine QX.then_normal (hK343 _ _ ?_)
            refine WC.seq (fun K345 hK346 => ?_)
            refine WC.block ?_
            refine WC.seq (fun K347 hK348 => ?_)
            refine WC.region ?_
            have hn353 := own_count cellsC_len (by decide) want_m337
            obtain ⟨e349, he350⟩ := get_some (xs := T.want) (i := i) (by omega)
            obtain ⟨b351, hA352⟩ := own_addr (by decide) cellsC_len want_m337 he350
            refine WL.index Aw T.want.length cw 60 .i64 (i : Int) b351 0 i 12 (by kernel_rfl) hA352 (by omega) (by omega) (i * 12) (by first | (simp; done) | omega) ?_
            refine WL.load 44 (.pointer (some ⟨b351, i * 12, none⟩)) (.agg #[.int .i64 e349.node, .int .i64 e349.boot, .int .i64 e349.seq, .int .i64 e349.time, .int .i64 e349.kind, .int .u32 0, .int .i64 0, .int .i64 0, .slice none 0 0, .int .u32 e349.dip, .int .u32 e349.vip, .bool e349.up]) 61 (by kernel_rfl) (run_rdN (l := [.int .i64 e349.node, .int .i64 e349.boot, .int .i64 e349.seq, .int .i64 e349.time, .int .i64 e349.kind, .int .u32 0, .int .i64 0, .int .i64 0, .slice none 0 0, .int .u32 e349.dip, .int .u32 e349.vip, .bool e349.up]) rfl rfl (fun j u hu => by have hq_ := Rd.cell (own_rd want_m337 cellsC_len (by decide)) hA352 he350 j u hu; simpa [Nat.add_assoc] using hq_)) ?_
            refine WL.newM hC339 (fun b => .pointer (some ⟨b, 0, none⟩)) (.cells #[.int .i64 0, .int .i64 0, .int .i64 0, .int .i64 0, .int .i64 0, .int .u32 0, .int .i64 0, .int .i64 0, .slice none 0 0, .int .u32 0, .int .u32 0, .bool false] 44) 10 (fun _ => by kernel_rfl) (fun g354 w355 hb358 hF356 hC357 => ?_)
            have ho359 := own_fr hv_m337 hF356 (by simp)
            have ho360 := own_fr want_m337 hF356 (by simp)
            have ho361 := own_fr hlog5 hF356 (by simp)
            refine WL.storeM (c' := #[.int .i64 e349.node, .int .i64 e349.boot, .int .i64 e349.seq, .int .i64 e349.time, .int .i64 e349.kind, .int .u32 0, .int .i64 0, .int .i64 0, .slice none 0 0, .int .u32 e349.dip, .int .u32 e349.vip, .bool e349.up]) hC357 2 44 g354 0 (.agg #[.int .i64 e349.node, .int .i64 e349.boot, .int .i64 e349.seq, .int .i64 e349.time, .int .i64 e349.kind, .int .u32 0, .int .i64 0, .int .i64 0, .slice none 0 0, .int .u32 e349.dip, .int .u32 e349.vip, .bool e349.up]) (by kernel_rfl) rfl (by kernel_rfl) (fun w362 hF364 hC365 => ?_)
            have ho366 := own_fr ho359 hF364 (hC357.apartM 0 2 rfl rfl)
            have ho367 := own_fr ho360 hF364 (hC357.apartM 1 2 rfl rfl)
            have ho368 := own_fr ho361 hF364 (hC357.apartM 2 2 rfl rfl)
            refine WL.done rfl ?_
            refine QX.then_normal (hK348 _ _ ?_)
            refine WC.seq (fun K369 hK370 => ?_)
            refine WC.drawC hC365 [] (by kernel_rfl) (fun w371 hF372 hC373 hS374 => ?_)
            have ho375 := own_fr ho366 hF372 (by simp)
            have ho376 := own_fr ho367 hF372 (by simp)
            have ho377 := own_fr ho368 hF372 (by simp)
            refine WD.pure (NoPanic.then (NoPanic.block (NoPanic.then (NoPanic.then (NoPanic.block (NoPanic.then hN)))))) 0 62 (.pointer (some ⟨p, 0, none⟩)) (by kernel_rfl) (fun _ => by kernel_rfl) hS374 ?_
            refine WD.pure (NoPanic.then (NoPanic.block (NoPanic.then (NoPanic.then (NoPanic.block (NoPanic.then hN)))))) 1 63 (.pointer (some ⟨p, 0, none⟩)) (by kernel_rfl) (fun _ => by kernel_rfl) hS374 ?_
            refine WD.pure (NoPanic.then (NoPanic.block (NoPanic.then (NoPanic.then (NoPanic.block (NoPanic.then hN)))))) 2 64 (.pointer (some ⟨p, 8, none⟩)) (by kernel_rfl) (fun _ => by kernel_rfl) hS374 ?_
            refine WD.load (NoPanic.then (NoPanic.block (NoPanic.then (NoPanic.then (NoPanic.block (NoPanic.then hN)))))) 3 35 (.pointer (some ⟨p, 8, none⟩)) (.slice A5 n5 c5) 65 (by kernel_rfl) (by kernel_rfl) (fun _ hS_ => run_ld (Fr.has hS_ (hC373.get 0 rfl) (by simp)) rfl) hS374 ?_
            refine WD.load (NoPanic.then (NoPanic.block (NoPanic.then (NoPanic.then (NoPanic.block (NoPanic.then hN)))))) 4 44 (.pointer (some ⟨g354, 0, none⟩)) (.agg #[.int .i64 e349.node, .int .i64 e349.boot, .int .i64 e349.seq, .int .i64 e349.time, .int .i64 e349.kind, .int .u32 0, .int .i64 0, .int .i64 0, .slice none 0 0, .int .u32 e349.dip, .int .u32 e349.vip, .bool e349.up]) 66 (by kernel_rfl) (by kernel_rfl) (fun _ hS_ => run_ld (Fr.has hS_ (hC373.get 2 rfl) (by simp)) rfl) hS374 ?_
            refine WD.call 5 (by kernel_rfl) rfl rfl rfl rfl rfl (by kernel_rfl) (place_n e349 A5 n5 c5 L5 w371 (own_rd ho377 cellsC_len (by decide)) (own_count cellsC_len (by decide) ho377) (by first | (simp; done) | omega)) ?_
            rintro _ w379 ⟨rfl, hF378⟩
            have hS381 := hS374.trans hF378 (by simp)
            refine ⟨_, rfl, hS381, ?_⟩
            have hC380 := hC373.call hF378
            have ho382 := own_fr ho375 hF378 (by simp)
            have ho383 := own_fr ho376 hF378 (by simp)
            have ho384 := own_fr ho377 hF378 (by simp)
            refine WD.pure (NoPanic.then (NoPanic.block (NoPanic.then (NoPanic.then (NoPanic.block (NoPanic.then hN)))))) 6 68 (.bool ((placeN L5 e349) == 0)) (by kernel_rfl) (fun _ => by kernel_rfl) hS381 ?_
            refine WD.done (by kernel_rfl) ?_
            refine QX.then_normal (hK370 _ _ ?_)
            refine WC.test_at 68 ((placeN L5 e349) == 0) rfl (fun t385b => ?_) (fun t385b => ?_)
            · -- (placeN L5 e349) = 0: true
              have t385 : (placeN L5 e349) = 0 := by simpa using t385b
              refine WC.cond_true rfl ?_
              refine WC.drawC hC380 (p :: blk (.slice A5 n5 c5)) (by kernel_rfl) (fun w386 hF387 hC388 hS389 => ?_)
              have ho390 := own_fr ho382 hF387 (by simp)
              have ho391 := own_fr ho383 hF387 (by simp)
              have ho392 := own_fr ho384 hF387 (by simp)
              refine WD.pure (NoPanic.block (NoPanic.then (NoPanic.then (NoPanic.block (NoPanic.then hN))))) 0 69 (.pointer (some ⟨p, 0, none⟩)) (by kernel_rfl) (fun _ => by kernel_rfl) hS389 ?_
              refine WD.pure (NoPanic.block (NoPanic.then (NoPanic.then (NoPanic.block (NoPanic.then hN))))) 1 70 (.pointer (some ⟨p, 0, none⟩)) (by kernel_rfl) (fun _ => by kernel_rfl) hS389 ?_
              refine WD.pure (NoPanic.block (NoPanic.then (NoPanic.then (NoPanic.block (NoPanic.then hN))))) 2 71 (.pointer (some ⟨p, 0, none⟩)) (by kernel_rfl) (fun _ => by kernel_rfl) hS389 ?_
              refine WD.pure (NoPanic.block (NoPanic.then (NoPanic.then (NoPanic.block (NoPanic.then hN))))) 3 72 (.pointer (some ⟨p, 8, none⟩)) (by kernel_rfl) (fun _ => by kernel_rfl) hS389 ?_
              refine WD.load (NoPanic.block (NoPanic.then (NoPanic.then (NoPanic.block (NoPanic.then hN))))) 5 44 (.pointer (some ⟨g354, 0, none⟩)) (.agg #[.int .i64 e349.node, .int .i64 e349.boot, .int .i64 e349.seq, .int .i64 e349.time, .int .i64 e349.kind, .int .u32 0, .int .i64 0, .int .i64 0, .slice none 0 0, .int .u32 e349.dip, .int .u32 e349.vip, .bool e349.up]) 74 (by kernel_rfl) (by kernel_rfl) (fun _ hS_ => run_ld (Fr.has hS_ (hC388.get 2 rfl) (fun h_ => (List.mem_cons.1 h_).elim (hC388.ne 2 0 rfl rfl (by decide)) (hC388.notin 2 2 rfl rfl))) rfl) hS389 ?_
              refine WD.all2 4 6 (by kernel_rfl) ?_ ?_
              · -- operation 4 comes first
                refine WO.sem 4 (Instr.loadAt 35 (.pointer (some ⟨p, 8, none⟩))) 73 (.slice A5 n5 c5) (by kernel_rfl) (by kernel_rfl) (run_ld (hC388.get 0 rfl) rfl) hS389 ?_
                refine WD.new 6 (fun b => .slice (some ⟨b, 0, none⟩) 1 1) (.cells #[.int .i64 e349.node, .int .i64 e349.boot, .int .i64 e349.seq, .int .i64 e349.time, .int .i64 e349.kind, .int .u32 0, .int .i64 0, .int .i64 0, .slice none 0 0, .int .u32 e349.dip, .int .u32 e349.vip, .bool e349.up] 44) (by kernel_rfl) rfl rfl rfl rfl rfl (fun _ => by kernel_rfl) (fun g393 w394 hb397 hl398 hF395 ho399 => ?_)
                have hC396 := hC388.callB hF395 hb397 ho399
                have hS400 := hS389.trans hF395 (by simp)
                refine ⟨hS400, ?_⟩
                have ho401 := own_fr ho390 hF395 (by simp)
                have ho402 := own_fr ho391 hF395 (by simp)
                have ho403 := own_fr ho392 hF395 (by simp)
                obtain ⟨v404, w405, hr406, ho407, hF408, hC409, hnil410, hsub411⟩ := app_run Try.prog hC396 2 (v := .slice A5 n5 c5) rfl 35 35 44 12 104 n5 1 1 (some ⟨g393, 0, none⟩) rfl ho403 [.int .i64 e349.node, .int .i64 e349.boot, .int .i64 e349.seq, .int .i64 e349.time, .int .i64 e349.kind, .int .u32 0, .int .i64 0, .int .i64 0, .slice none 0 0, .int .u32 e349.dip, .int .u32 e349.vip, .bool e349.up] rfl (srcOk.blk 1 (hC396.get 3 rfl)) rfl (by simp only [maxLen]; omega) (by omega)
                have ho415 := own_snoc (enc := cellsC) (ys := L5) e349 ho407
                obtain ⟨A412, c413, rfl, hle414⟩ := own_form ho415
                have hS416 := hS400.trans hF408 (fun x_ hx_ => .inl (List.mem_cons_of_mem _ hx_))
                refine WD.sem 7 (Builtin.append_ #[35, 35] 35 #[.slice A5 n5 c5, .slice (some ⟨g393, 0, none⟩) 1 1]) 76 (.slice A412 (n5 + 1) c413) (by kernel_rfl) (by kernel_rfl) hr406 hS416 ?_
                have ho417 := own_fr ho401 hF408 (hC396.disj 0 2 rfl rfl (by decide))
                have ho418 := own_fr ho402 hF408 (hC396.disj 1 2 rfl rfl (by decide))
                refine WD.pure (NoPanic.block (NoPanic.then (NoPanic.then (NoPanic.block (NoPanic.then hN))))) 8 77 (.pointer (some ⟨p, 0, none⟩)) (by kernel_rfl) (fun _ => by kernel_rfl) hS416 ?_
                refine WD.pure (NoPanic.block (NoPanic.then (NoPanic.then (NoPanic.block (NoPanic.then hN))))) 9 78 (.pointer (some ⟨p, 8, none⟩)) (by kernel_rfl) (fun _ => by kernel_rfl) hS416 ?_
                obtain ⟨w419, hr420, hF421, hC422⟩ := sto_run (c' := #[.int .i64 T.n, .slice Ah40 hs42.length ch41, .int .i64 T.bn, .int .i64 T.bd, .slice Aw T.want.length cw, .int .i64 T.stage, .int .i64 T.sn, .int .i64 T.sd, .slice A412 (n5 + 1) c413]) Try.prog hC409 0 35 p 8 (.slice A412 (n5 + 1) c413) rfl (by kernel_rfl)
                have hS423 := hS416.trans hF421 (by first | (simp; done) | (simp [*]; done) | (have q_ := hS416.size; simp; omega))
                refine WD.semU 10 (Instr.storeAt 35 (.pointer (some ⟨p, 8, none⟩)) (.slice A412 (n5 + 1) c413)) (by kernel_rfl) (by kernel_rfl) hr420 hS423 ?_
                have ho424 := own_fr ho417 hF421 (hC409.apartM 0 0 rfl rfl)
                have ho425 := own_fr ho418 hF421 (hC409.apartM 1 0 rfl rfl)
                have ho426 := own_fr ho415 hF421 (hC409.apartM 2 0 rfl rfl)
                refine WD.done (by kernel_rfl) ?_
                refine QX.block_normal ?_
                refine QX.then_normal (hK346 _ _ ?_)
                refine WC.region ?_
                refine WL.runs 1 [(79, .int .i64 (IntKind.i64.wrap ((i : Int) + 1)))] (fun _ => by kernel_rfl) ?_
                refine WL.recast (show (.int .i64 (IntKind.i64.wrap ((i : Int) + 1)) : Value) = .int .i64 ((i : Int) + 1) from by rw [wrap_in_i64 ((i : Int) + 1) (by omega) (by omega)]) ?_
                refine WL.runs 1 [(58, .int .i64 ((i : Int) + 1))] (fun _ => by kernel_rfl) ?_
                refine WL.done rfl ?_
                refine QX.then_normal ?_
                have hC427 := hC422.pick [0, 1] [0, 1, 2] rfl rfl
                refine fun a_ ha_ => hK335 _ _ _ ?_ ⟨i + 1, A412, n5 + 1, c413, L5 ++ [e349], rfl, rfl, hC427, ho424, ho425, ho426, by omega, by rw [← hfl, fill_step he350, if_pos (by assumption)], by first | omega | (rw [List.length_append]; simp only [List.length_cons, List.length_nil]; omega)⟩ a_ (ha_.weaken (sub_of ⟨rfl, rfl, rfl, rfl, rfl, trivial⟩))
                omega
              · -- operation 6 comes first
                refine WO.new 6 (fun b => .slice (some ⟨b, 0, none⟩) 1 1) (.cells #[.int .i64 e349.node, .int .i64 e349.boot, .int .i64 e349.seq, .int .i64 e349.time, .int .i64 e349.kind, .int .u32 0, .int .i64 0, .int .i64 0, .slice none 0 0, .int .u32 e349.dip, .int .u32 e349.vip, .bool e349.up] 44) (by kernel_rfl) rfl rfl rfl rfl rfl (fun _ => by kernel_rfl) (fun g428 w429 hb432 hl433 hF430 ho434 => ?_)
                have hC431 := hC388.callB hF430 hb432 ho434
                have hS435 := hS389.trans hF430 (by simp)
                refine ⟨hS435, ?_⟩
                have ho436 := own_fr ho390 hF430 (by simp)
                have ho437 := own_fr ho391 hF430 (by simp)
                have ho438 := own_fr ho392 hF430 (by simp)
                refine WD.sem 4 (Instr.loadAt 35 (.pointer (some ⟨p, 8, none⟩))) 73 (.slice A5 n5 c5) (by kernel_rfl) (by kernel_rfl) (run_ld (hC431.get 0 rfl) rfl) hS435 ?_
                obtain ⟨v439, w440, hr441, ho442, hF443, hC444, hnil445, hsub446⟩ := app_run Try.prog hC431 2 (v := .slice A5 n5 c5) rfl 35 35 44 12 104 n5 1 1 (some ⟨g428, 0, none⟩) rfl ho438 [.int .i64 e349.node, .int .i64 e349.boot, .int .i64 e349.seq, .int .i64 e349.time, .int .i64 e349.kind, .int .u32 0, .int .i64 0, .int .i64 0, .slice none 0 0, .int .u32 e349.dip, .int .u32 e349.vip, .bool e349.up] rfl (srcOk.blk 1 (hC431.get 3 rfl)) rfl (by simp only [maxLen]; omega) (by omega)
                have ho450 := own_snoc (enc := cellsC) (ys := L5) e349 ho442
                obtain ⟨A447, c448, rfl, hle449⟩ := own_form ho450
                have hS451 := hS435.trans hF443 (fun x_ hx_ => .inl (List.mem_cons_of_mem _ hx_))
                refine WD.sem 7 (Builtin.append_ #[35, 35] 35 #[.slice A5 n5 c5, .slice (some ⟨g428, 0, none⟩) 1 1]) 76 (.slice A447 (n5 + 1) c448) (by kernel_rfl) (by kernel_rfl) hr441 hS451 ?_
                have ho452 := own_fr ho436 hF443 (hC431.disj 0 2 rfl rfl (by decide))
                have ho453 := own_fr ho437 hF443 (hC431.disj 1 2 rfl rfl (by decide))
                refine WD.pure (NoPanic.block (NoPanic.then (NoPanic.then (NoPanic.block (NoPanic.then hN))))) 8 77 (.pointer (some ⟨p, 0, none⟩)) (by kernel_rfl) (fun _ => by kernel_rfl) hS451 ?_
                refine WD.pure (NoPanic.block (NoPanic.then (NoPanic.then (NoPanic.block (NoPanic.then hN))))) 9 78 (.pointer (some ⟨p, 8, none⟩)) (by kernel_rfl) (fun _ => by kernel_rfl) hS451 ?_
                obtain ⟨w454, hr455, hF456, hC457⟩ := sto_run (c' := #[.int .i64 T.n, .slice Ah40 hs42.length ch41, .int .i64 T.bn, .int .i64 T.bd, .slice Aw T.want.length cw, .int .i64 T.stage, .int .i64 T.sn, .int .i64 T.sd, .slice A447 (n5 + 1) c448]) Try.prog hC444 0 35 p 8 (.slice A447 (n5 + 1) c448) rfl (by kernel_rfl)
                have hS458 := hS451.trans hF456 (by first | (simp; done) | (simp [*]; done) | (have q_ := hS451.size; simp; omega))
                refine WD.semU 10 (Instr.storeAt 35 (.pointer (some ⟨p, 8, none⟩)) (.slice A447 (n5 + 1) c448)) (by kernel_rfl) (by kernel_rfl) hr455 hS458 ?_
                have ho459 := own_fr ho452 hF456 (hC444.apartM 0 0 rfl rfl)
                have ho460 := own_fr ho453 hF456 (hC444.apartM 1 0 rfl rfl)
                have ho461 := own_fr ho450 hF456 (hC444.apartM 2 0 rfl rfl)
                refine WD.done (by kernel_rfl) ?_
                refine QX.block_normal ?_
                refine QX.then_normal (hK346 _ _ ?_)
                refine WC.region ?_
                refine WL.runs 1 [(79, .int .i64 (IntKind.i64.wrap ((i : Int) + 1)))] (fun _ => by kernel_rfl) ?_
                refine WL.recast (show (.int .i64 (IntKind.i64.wrap ((i : Int) + 1)) : Value) = .int .i64 ((i : Int) + 1) from by rw [wrap_in_i64 ((i : Int) + 1) (by omega) (by omega)]) ?_
                refine WL.runs 1 [(58, .int .i64 ((i : Int) + 1))] (fun _ => by kernel_rfl) ?_
                refine WL.done rfl ?_
                refine QX.then_normal ?_
                have hC462 := hC457.pick [0, 1] [0, 1, 2] rfl rfl
                refine fun a_ ha_ => hK335 _ _ _ ?_ ⟨i + 1, A447, n5 + 1, c448, L5 ++ [e349], rfl, rfl, hC462, ho459, ho460, ho461, by omega, by rw [← hfl, fill_step he350, if_pos (by assumption)], by first | omega | (rw [List.length_append]; simp only [List.length_cons, List.length_nil]; omega)⟩ a_ (ha_.weaken (sub_of ⟨rfl, rfl, rfl, rfl, rfl, trivial⟩))
                omega
            · -- (placeN L5 e349) = 0: false
              have t385 : ¬ ((placeN L5 e349) = 0) := by simpa using t385b
              refine WC.cond_false rfl ?_
              refine WC.skip ?_
              refine QX.block_normal ?_
              refine QX.then_normal (hK346 _ _ ?_)
              refine WC.region ?_
              refine WL.runs 1 [(79, .int .i64 (IntKind.i64.wrap ((i : Int) + 1)))] (fun _ => by kernel_rfl) ?_
              refine WL.recast (show (.int .i64 (IntKind.i64.wrap ((i : Int) + 1)) : Value) = .int .i64 ((i : Int) + 1) from by rw [wrap_in_i64 ((i : Int) + 1) (by omega) (by omega)]) ?_
              refine WL.runs 1 [(58, .int .i64 ((i : Int) + 1))] (fun _ => by kernel_rfl) ?_
              refine WL.done rfl ?_
              refine QX.then_normal ?_
              have hC463 := hC380.pick [0, 1] [0, 1, 2] rfl rfl
              refine fun a_ ha_ => hK335 _ _ _ ?_ ⟨i + 1, A5, n5, c5, L5, rfl, rfl, hC463, ho382, ho383, ho384, by omega, by rw [← hfl, fill_step he350, if_neg (by assumption)], by first | omega | (rw [List.length_append]; simp only [List.length_cons, List.length_nil]; omega)⟩ a_ (ha_.weaken (sub_of ⟨rfl, rfl, rfl, rfl, rfl, trivial⟩))
              omega
          · -- (i : Int) < (T.want.length : Int): false
            have t344 : (T.want.length : Int) ≤ (i : Int) := by have q_ := of_decide_eq_false t344b; omega
            refine WC.cond_false rfl ?_
            refine WC.exit ?_
            refine QX.then_exit ?_
            refine QX.then_exit ?_
            refine QX.block_hit ?_
            refine QX.then_normal (hK331 _ _ ?_)
            refine WC.seq (fun K464 hK465 => ?_)
            refine WC.region ?_
            refine WL.runs 4 [(83, .pointer (some ⟨p, 1, none⟩)), (82, .pointer (some ⟨p, 0, none⟩)), (81, .pointer (some ⟨p, 0, none⟩)), (80, .pointer (some ⟨p, 0, none⟩))] (fun _ => by kernel_rfl) ?_
            refine WL.storeM (c' := #[.int .i64 T.n, .slice none 0 0, .int .i64 T.bn, .int .i64 T.bd, .slice Aw T.want.length cw, .int .i64 T.stage, .int .i64 T.sn, .int .i64 T.sd, .slice A5 n5 c5]) hC339 0 22 p 1 (.slice none 0 0) (by kernel_rfl) rfl (by kernel_rfl) (fun w466 hF468 hC469 => ?_)
            have ho470 := own_fr hv_m337 hF468 (hC339.apartM 0 0 rfl rfl)
            have ho471 := own_fr want_m337 hF468 (hC339.apartM 1 0 rfl rfl)
            have ho472 := own_fr hlog5 hF468 (hC339.apartM 2 0 rfl rfl)
            refine WL.done rfl ?_
            refine QX.then_normal (hK465 _ _ ?_)
            refine WC.seq (fun K473 hK474 => ?_)
            refine WC.region ?_
            refine WL.runs 3 [(86, .pointer (some ⟨p, 5, none⟩)), (85, .pointer (some ⟨p, 0, none⟩)), (84, .pointer (some ⟨p, 0, none⟩))] (fun _ => by kernel_rfl) ?_
            refine WL.storeM (c' := #[.int .i64 T.n, .slice none 0 0, .int .i64 T.bn, .int .i64 T.bd, .slice Aw T.want.length cw, .int .i64 2, .int .i64 T.sn, .int .i64 T.sd, .slice A5 n5 c5]) hC469 0 3 p 5 (.int .i64 2) (by kernel_rfl) rfl (by kernel_rfl) (fun w475 hF477 hC478 => ?_)
            have ho479 := own_fr ho470 hF477 (hC469.apartM 0 0 rfl rfl)
            have ho480 := own_fr ho471 hF477 (hC469.apartM 1 0 rfl rfl)
            have ho481 := own_fr ho472 hF477 (hC469.apartM 2 0 rfl rfl)
            refine WL.done rfl ?_
            refine QX.then_normal (hK474 _ _ ?_)
            refine WC.seq (fun K482 hK483 => ?_)
            refine WC.seq (fun K484 hK485 => ?_)
            refine WC.region ?_
            refine WL.runs 3 [(89, .pointer (some ⟨p, 8, none⟩)), (88, .pointer (some ⟨p, 0, none⟩)), (87, .pointer (some ⟨p, 0, none⟩))] (fun _ => by kernel_rfl) ?_
            refine WL.load 35 (.pointer (some ⟨p, 8, none⟩)) (.slice A5 n5 c5) 90 (by kernel_rfl) (run_ld (hC478.get 0 rfl) rfl) ?_
            refine WL.runs 2 [(92, .bool (decide ((n5 : Int) > 256))), (91, .int .i64 (n5 : Int))] (fun _ => by kernel_rfl) ?_
            refine WL.done rfl ?_
            refine QX.then_normal (hK485 _ _ ?_)
            refine WC.test_at 92 (decide ((n5 : Int) > 256)) rfl (fun t486b => ?_) (fun t486b => ?_)
            · -- (n5 : Int) > 256: true
              have t486 : (256 : Int) < (n5 : Int) := by have q_ := of_decide_eq_true t486b; omega
              refine WC.cond_true rfl ?_
              refine WC.region ?_
              refine WL.runs 3 [(95, .pointer (some ⟨p, 5, none⟩)), (94, .pointer (some ⟨p, 0, none⟩)), (93, .pointer (some ⟨p, 0, none⟩))] (fun _ => by kernel_rfl) ?_
              refine WL.storeM (c' := #[.int .i64 T.n, .slice none 0 0, .int .i64 T.bn, .int .i64 T.bd, .slice Aw T.want.length cw, .int .i64 4, .int .i64 T.sn, .int .i64 T.sd, .slice A5 n5 c5]) hC478 0 3 p 5 (.int .i64 4) (by kernel_rfl) rfl (by kernel_rfl) (fun w487 hF489 hC490 => ?_)
              have ho491 := own_fr ho479 hF489 (hC478.apartM 0 0 rfl rfl)
              have ho492 := own_fr ho480 hF489 (hC478.apartM 1 0 rfl rfl)
              have ho493 := own_fr ho481 hF489 (hC478.apartM 2 0 rfl rfl)
              refine WL.done rfl ?_
              refine QX.then_normal (hK483 _ _ ?_)
              refine WC.seq (fun K494 hK495 => ?_)
              refine WC.region ?_
              refine WL.runs 3 [(98, .pointer (some ⟨p, 5, none⟩)), (97, .pointer (some ⟨p, 0, none⟩)), (96, .pointer (some ⟨p, 0, none⟩))] (fun _ => by kernel_rfl) ?_
              refine WL.load 3 (.pointer (some ⟨p, 5, none⟩)) (.int .i64 4) 99 (by kernel_rfl) (run_ld (hC490.get 0 rfl) rfl) ?_
              refine WL.runs 1 [(8, .int .i64 4)] (fun _ => by kernel_rfl) ?_
              refine WL.done rfl ?_
              refine QX.then_normal (hK495 _ _ ?_)
              refine WC.ret ?_
              refine (hret _ _ _ rfl ?_).1
              clear hN hret hret' hK495 hK485 hK483 hK474 hK465 hK343 hK341 hK333 hK331 hK320 hK318 hK64 hK62 hK15 hK13 hK2
              have hmo_ : T.n < 2 * ((T.hv.length : Int) + 1) := by have q_ := of_decide_eq_true t327; rw [hse49, t52] at q_; simp only [if_true, List.length_append, List.length_cons, List.length_nil] at q_; omega
              have hie_ : i = T.want.length := by omega
              rw [hie_, List.drop_length, fill_nil] at hfl
              have hcm_ := own_count cellsC_len (by decide) ho493
              have hC496 := hC490.addNil
              obtain ⟨F2_, hrd_, hsub_⟩ := rd_close (T := (⟨T.n, [], T.bn, T.bd, T.want, 4, T.sn, T.sd, L5⟩ : Rn)) hC496 0 3 1 2 rfl rfl rfl rfl (own_nil _ _ _ _) ho492 ho493 (by decide) (by decide) (by decide)
              have hpt_ := prom_all (log := log) (by simpa using t23b) t52 hmo_ false (show lessB T.sn T.sd an ad = false from t79b) L5 (by simp only [if_true, Bool.false_eq_true, if_false]; exact hfl.symm) 4 (by first | (rw [if_pos (by omega)]; done) | (rw [if_neg (by omega)]; done))
              simp only [if_true, Bool.false_eq_true, if_false] at hpt_
              rw [hpt_]
              exact ⟨F2_, rfl, hC496.fr, hrd_, hsub_⟩
            · -- (n5 : Int) > 256: false
              have t486 : (n5 : Int) ≤ 256 := by have q_ := of_decide_eq_false t486b; omega
              refine WC.cond_false rfl ?_
              refine WC.skip ?_
              refine QX.then_normal (hK483 _ _ ?_)
              refine WC.seq (fun K497 hK498 => ?_)
              refine WC.region ?_
              refine WL.runs 3 [(98, .pointer (some ⟨p, 5, none⟩)), (97, .pointer (some ⟨p, 0, none⟩)), (96, .pointer (some ⟨p, 0, none⟩))] (fun _ => by kernel_rfl) ?_
              refine WL.load 3 (.pointer (some ⟨p, 5, none⟩)) (.int .i64 2) 99 (by kernel_rfl) (run_ld (hC478.get 0 rfl) rfl) ?_
              refine WL.runs 1 [(8, .int .i64 2)] (fun _ => by kernel_rfl) ?_
              refine WL.done rfl ?_
              refine QX.then_normal (hK498 _ _ ?_)
              refine WC.ret ?_
              refine (hret _ _ _ rfl ?_).1
              clear hN hret hret' hK498 hK485 hK483 hK474 hK465 hK343 hK341 hK333 hK331 hK320 hK318 hK64 hK62 hK15 hK13 hK2
              have hmo_ : T.n < 2 * ((T.hv.length : Int) + 1) := by have q_ := of_decide_eq_true t327; rw [hse49, t52] at q_; simp only [if_true, List.length_append, List.length_cons, List.length_nil] at q_; omega
              have hie_ : i = T.want.length := by omega
              rw [hie_, List.drop_length, fill_nil] at hfl
              have hcm_ := own_count cellsC_len (by decide) ho481
              have hC499 := hC478.addNil
              obtain ⟨F2_, hrd_, hsub_⟩ := rd_close (T := (⟨T.n, [], T.bn, T.bd, T.want, 2, T.sn, T.sd, L5⟩ : Rn)) hC499 0 3 1 2 rfl rfl rfl rfl (own_nil _ _ _ _) ho480 ho481 (by decide) (by decide) (by decide)
              have hpt_ := prom_all (log := log) (by simpa using t23b) t52 hmo_ false (show lessB T.sn T.sd an ad = false from t79b) L5 (by simp only [if_true, Bool.false_eq_true, if_false]; exact hfl.symm) 2 (by first | (rw [if_pos (by omega)]; done) | (rw [if_neg (by omega)]; done))
              simp only [if_true, Bool.false_eq_true, if_false] at hpt_
              rw [hpt_]
              exact ⟨F2_, rfl, hC499.fr, hrd_, hsub_⟩

end Go.Proofs.Ytlpmmepbfafpfaa
