/- Contracts of functions of the program, each proved by a walk through its code; conditions stand in the statements. -/
import Derived.Test.YtlpmmepbfafpfaaRdC15
namespace Go.Proofs.Ytlpmmepbfafpfaa
set_option linter.unusedSimpArgs false
set_option linter.unusedVariables false
set_option linter.unusedSectionVars false
open Go Go.RowKit Go.Tw
set_option linter.unusedVariables false
set_option maxRecDepth 20000
theorem Stage_ct (p : Nat) (s : Int) (x0 x1 x2 x3 x4 x6 x7 x8 : Value) (w : World) (hp_ : w.heap[p]? = some (.cells #[x0, x1, x2, x3, x4, .int .i64 s, x6, x7, x8] 77 (0, 0))) : Calls Try.prog 15 #[.pointer (some ⟨p, 0, none⟩)] w fun e w' => e = .returned (.int .i64 s) ∧ Fr w w' [] := by
  refine enterD (n := 9) Try.func15 rfl rfl (Nat.le_of_ble_eq_true rfl) ?_
  intro Q0 hN hret hret'
  have hC := Cx.startMs w [(p, .cells #[x0, x1, x2, x3, x4, .int .i64 s, x6, x7, x8] 77)] (by simp) (by simp [hp_])
  refine WC.seq (fun K1 hK2 => ?_)
  refine WC.region ?_
  refine WL.runs 1 [(2, .int .i64 0)] (fun _ => by kernel_rfl) ?_
  refine WL.done rfl ?_
  refine QX.then_normal (hK2 _ _ ?_)
  refine WC.seq (fun K3 hK4 => ?_)
  refine WC.seq (fun K5 hK6 => ?_)
  refine WC.region ?_
  refine WL.runs 2 [(4, .bool false), (3, .pointer (some ⟨p, 0, none⟩))] (fun _ => by kernel_rfl) ?_
  refine WL.done rfl ?_
  refine QX.then_normal (hK6 _ _ ?_)
  refine WC.cond_false rfl ?_
  refine WC.skip ?_
  refine QX.then_normal (hK4 _ _ ?_)
  refine WC.seq (fun K7 hK8 => ?_)
  refine WC.region ?_
  refine WL.runs 3 [(7, .pointer (some ⟨p, 5, none⟩)), (6, .pointer (some ⟨p, 0, none⟩)), (5, .pointer (some ⟨p, 0, none⟩))] (fun _ => by kernel_rfl) ?_
  refine WL.load 3 (.pointer (some ⟨p, 5, none⟩)) (.int .i64 s) 8 (by kernel_rfl) (run_ld (hC.get 0 rfl) rfl) ?_
  refine WL.runs 1 [(2, .int .i64 s)] (fun _ => by kernel_rfl) ?_
  refine WL.done rfl ?_
  refine QX.then_normal (hK8 _ _ ?_)
  refine WC.ret ?_
  refine (hret _ _ _ rfl ?_).1
  clear hN hret hret' hK8 hK6 hK4 hK2
  exact ⟨rfl, (Fr.refl w [])⟩

theorem Stage_nil  (w : World) : Calls Try.prog 15 #[.pointer none] w fun e w' => e = .returned (.int .i64 0) ∧ Fr w w' [] := by
  refine enterD (n := 9) Try.func15 rfl rfl (Nat.le_of_ble_eq_true rfl) ?_
  intro Q0 hN hret hret'
  have hC := Cx.start w
  refine WC.seq (fun K1 hK2 => ?_)
  refine WC.region ?_
  refine WL.runs 1 [(2, .int .i64 0)] (fun _ => by kernel_rfl) ?_
  refine WL.done rfl ?_
  refine QX.then_normal (hK2 _ _ ?_)
  refine WC.seq (fun K3 hK4 => ?_)
  refine WC.seq (fun K5 hK6 => ?_)
  refine WC.region ?_
  refine WL.runs 2 [(4, .bool true), (3, .pointer none)] (fun _ => by kernel_rfl) ?_
  refine WL.done rfl ?_
  refine QX.then_normal (hK6 _ _ ?_)
  refine WC.cond_true rfl ?_
  refine WC.seq (fun K7 hK8 => ?_)
  refine WC.region ?_
  refine WL.runs 1 [(2, .int .i64 0)] (fun _ => by kernel_rfl) ?_
  refine WL.done rfl ?_
  refine QX.then_normal (hK8 _ _ ?_)
  refine WC.ret ?_
  refine QX.then_ret ?_
  refine (hret _ _ _ rfl ?_).1
  clear hN hret hret' hK8 hK6 hK4 hK2
  exact ⟨rfl, hC.fr⟩

theorem CheckLog_n (A : Option Addr) (n c : Nat) (log : List Cm) (w : World) (hr : Rd w 12 cellsC A log) (hn : log.length = n) (hok : okL log) : Calls Try.prog 22 #[.slice A n c] w fun e w' => e = .returned .nilIface ∧ Fr w w' [] := by subst hn; exact CheckLog_ct A c log w hr hok
theorem copied_n (A : Option Addr) (n c : Nat) (log : List Cm) (w : World) (hr : Rd w 12 cellsC A log) (hn : log.length = n) (hlen : log.length ≤ 70000) : Calls Try.prog 23 #[.slice A n c] w fun e w' => ∃ v, e = .returned v ∧ Fr w w' [] ∧ w'.ownsRow w.heap.size 44 12 v log.length (log.flatMap cellsC) := by subst hn; exact copied_ct A c log w hr hlen
theorem place_n (c : Cm) (A : Option Addr) (n cp : Nat) (log : List Cm) (w : World) (hr : Rd w 12 cellsC A log) (hn : log.length = n) (hlen : log.length ≤ 70000) : Calls Try.prog 27 #[.slice A n cp, .agg #[.int .i64 c.node, .int .i64 c.boot, .int .i64 c.seq, .int .i64 c.time, .int .i64 c.kind, .int .u32 0, .int .i64 0, .int .i64 0, .slice none 0 0, .int .u32 c.dip, .int .u32 c.vip, .bool c.up]] w fun e w' => e = .returned (.int .i64 (placeN log c)) ∧ Fr w w' [] := by subst hn; exact place_ct c A cp log w hr hlen
theorem Contains_n (A : Option Addr) (n c : Nat) (xs : List Int) (x : Int) (w : World) (hr : Rd w 1 (Go.Tw.encI .i64) A xs) (hn : xs.length = n) (hlen : xs.length ≤ 70000) : Calls Try.prog 40 #[.slice A n c, .int .i64 x] w fun e w' => e = .returned (.bool (xs.contains x)) ∧ Fr w w' [] := by subst hn; exact Contains_ct A c xs x w hr hlen
theorem New_ct (n : Int) (b : Int × Int) (A : Option Addr) (c : Nat) (want : List Cm) (w : World) (h0 : 1 ≤ n) (h1 : n ≤ 8) (hr : Rd w 12 cellsC A want) (hok : okL want) (hw1 : want.length ≤ 1) : Calls Try.prog 8 #[.int .i64 n, .agg #[.int .i64 b.1, .int .i64 b.2], .slice A want.length c] w fun e w' => ∃ p F, e = .returned (.tuple #[.pointer (some ⟨p, 0, none⟩), .nilIface]) ∧ Fr w w' [] ∧ rdAt w' F p (⟨n, [], b.1, b.2, want, 1, 0, 0, []⟩ : Rn) ∧ ∀ x ∈ F, w.heap.size ≤ x := by
  refine enterD (n := 31) Try.func8 rfl rfl (Nat.le_of_ble_eq_true rfl) ?_
  intro Q0 hN hret hret'
  have hC := Cx.start w
  refine WC.seq (fun K1 hK2 => ?_)
  refine WC.region ?_
  refine WL.newM hC (fun b => .pointer (some ⟨b, 0, none⟩)) (.cells #[.int .i64 b.1, .int .i64 b.2] 31) 4 (fun _ => by kernel_rfl) (fun g3 w4 hb7 hF5 hC6 => ?_)
  refine WL.runs 2 [(7, .nilIface), (6, .pointer none)] (fun _ => by kernel_rfl) ?_
  refine WL.done rfl ?_
  refine QX.then_normal (hK2 _ _ ?_)
  refine WC.seq (fun K8 hK9 => ?_)
  refine WC.seq (fun K10 hK11 => ?_)
  refine WC.region ?_
  refine WL.runs 3 [(10, .bool (decide (n < 1))), (9, .bool (decide (n < 1))), (8, .int .i64 n)] (fun _ => by kernel_rfl) ?_
  refine WL.know 10 (.bool (decide (n < 1))) (.bool false) rfl (congrArg Value.bool (by simp; omega)) ?_
  refine WL.runs 3 [(13, .bool (decide (n > 8))), (12, .bool (decide (n > 8))), (11, .int .i64 n)] (fun _ => by kernel_rfl) ?_
  refine WL.done rfl ?_
  refine QX.then_normal (hK11 _ _ ?_)
  refine WC.know 13 (.bool (decide (n > 8))) (.bool false) rfl (congrArg Value.bool (by simp; omega)) ?_
  refine WC.cond_false rfl ?_
  refine WC.skip ?_
  refine QX.then_normal (hK9 _ _ ?_)
  refine WC.seq (fun K12 hK13 => ?_)
  refine WC.seq (fun K14 hK15 => ?_)
  refine WC.region ?_
  refine WL.runs 4 [(18, .bool (decide ((want.length : Int) > 1))), (17, .bool (decide ((want.length : Int) > 1))), (16, .int .i64 (want.length : Int)), (15, .slice A want.length c)] (fun _ => by kernel_rfl) ?_
  refine WL.know 18 (.bool (decide ((want.length : Int) > 1))) (.bool false) rfl (congrArg Value.bool (by simp; omega)) ?_
  refine WL.runs 1 [(19, .slice A want.length c)] (fun _ => by kernel_rfl) ?_
  refine WL.call rfl rfl rfl rfl rfl (by kernel_rfl) (CheckLog_n A want.length c want w4 (Rd.fr hr hC6.fr) (by first | rfl | assumption | (simp; done) | omega) hok) ?_
  rintro _ w17 ⟨rfl, hF16⟩
  refine ⟨_, rfl, ?_⟩
  have hC18 := hC6.call hF16
  refine WL.runs 2 [(22, .bool false), (21, .bool false)] (fun _ => by kernel_rfl) ?_
  refine WL.done rfl ?_
  refine QX.then_normal (hK15 _ _ ?_)
  refine WC.cond_false rfl ?_
  refine WC.skip ?_
  refine QX.then_normal (hK13 _ _ ?_)
  refine WC.seq (fun K19 hK20 => ?_)
  refine WC.drawC hC18 [] (by kernel_rfl) (fun w21 hF22 hC23 hS24 => ?_)
  refine WD.pure (NoPanic.then hN) 0 24 (.int .i64 n) (by kernel_rfl) (fun _ => by kernel_rfl) hS24 ?_
  refine WD.pure (NoPanic.then hN) 1 25 (.agg #[.int .i64 n, .slice none 0 0]) (by kernel_rfl) (fun _ => by kernel_rfl) hS24 ?_
  refine WD.pure (NoPanic.then hN) 3 27 (.slice A want.length c) (by kernel_rfl) (fun _ => by kernel_rfl) hS24 ?_
  refine WD.load (NoPanic.then hN) 2 31 (.pointer (some ⟨g3, 0, none⟩)) (.agg #[.int .i64 b.1, .int .i64 b.2]) 26 (by kernel_rfl) (by kernel_rfl) (fun _ hS_ => run_ld (Fr.has hS_ (hC23.get 0 rfl) (by simp)) rfl) hS24 ?_
  refine WD.call 4 (by kernel_rfl) rfl rfl rfl rfl rfl (by kernel_rfl) (copied_n A want.length c want w21 (Rd.fr hr hC23.fr) (by first | rfl | assumption | (simp; done) | omega) (by first | (simp; done) | omega)) ?_
  rintro _ w27 ⟨v_, rfl, hF26, ho25⟩
  have hC28 := hC23.callN hF26 (own_ge ho25) (own_lt ho25)
  obtain ⟨A29, c30, rfl, hle31⟩ := own_form ho25
  have ho33 := own_base (b' := 0) ho25 (fun _ _ => Nat.zero_le _)
  have hS34 := hS24.trans hF26 (by simp)
  refine ⟨_, rfl, hS34, ?_⟩
  refine WD.pure (NoPanic.then hN) 5 29 (.agg #[.int .i64 n, .slice none 0 0, .int .i64 b.1, .int .i64 b.2, .slice A29 want.length c30, .int .i64 1, .int .i64 0, .int .i64 0, .slice none 0 0]) (by kernel_rfl) (fun _ => by kernel_rfl) hS34 ?_
  refine WD.new 6 (fun b => .pointer (some ⟨b, 0, none⟩)) (.cells #[.int .i64 n, .slice none 0 0, .int .i64 b.1, .int .i64 b.2, .slice A29 want.length c30, .int .i64 1, .int .i64 0, .int .i64 0, .slice none 0 0] 77) (by kernel_rfl) rfl rfl rfl rfl rfl (fun _ => by kernel_rfl) (fun g36 w37 hb40 hl41 hF38 ho42 => ?_)
  have hC39 := hC28.callB hF38 hb40 ho42
  have hS43 := hS34.trans hF38 (by simp)
  refine ⟨hS43, ?_⟩
  have ho44 := own_fr ho33 hF38 (by simp)
  refine WD.pure (NoPanic.then hN) 7 6 (.pointer (some ⟨g36, 0, none⟩)) (by kernel_rfl) (fun _ => by kernel_rfl) hS43 ?_
  refine WD.pure (NoPanic.then hN) 8 7 (.nilIface) (by kernel_rfl) (fun _ => by kernel_rfl) hS43 ?_
  refine WD.done (by kernel_rfl) ?_
  refine QX.then_normal (hK20 _ _ ?_)
  refine WC.ret ?_
  refine (hret _ _ _ rfl ?_).1
  clear hN hret hret' hK20 hK15 hK13 hK11 hK9 hK2
  have hC45 := hC39.addNil
  have hC46 := hC45.addNil
  obtain ⟨F2_, hrd_, hsub_⟩ := rd_close (T := (⟨n, [], b.1, b.2, want, 1, 0, 0, []⟩ : Rn)) hC46 1 1 0 2 rfl rfl rfl rfl (own_nil _ _ _ _) ho44 (own_nil _ _ _ _) (by decide) (by decide) (by decide)
  exact ⟨_, F2_, rfl, hC46.fr, hrd_, fun x_ hx_ => (hsub_ x_ hx_).resolve_left (fun h_ => nomatch h_)⟩

end Go.Proofs.Ytlpmmepbfafpfaa
