/- Contracts of functions of the program, each proved by a walk through its code; conditions stand in the statements. -/
import Derived.Test.YtjacpjdikhlcoaaVtW14
namespace Go.Proofs.Ytjacpjdikhlcoaa
set_option linter.unusedSimpArgs false
set_option linter.unusedVariables false
set_option linter.unusedSectionVars false
open Go Go.RowKit Go.Tw
set_option linter.unusedVariables false
set_option maxRecDepth 20000
theorem cmdAt.frE {w w' : World} {m : Cmd} {G : List Nat} (h : cmdAt w m) (hf : Fr w w' G) (hd : 0 < m.v.ends.length → ∀ b off, m.a = some ⟨b, off, none⟩ → b ∉ G) : cmdAt w' m := ⟨Rd.frE h.rd hf hd, h.wf, h.lim, h.cap⟩
theorem RLess_ct (a b c d : Int) (w : World) : Calls Try.prog 68 #[.agg #[.int .i64 a, .int .i64 b], .agg #[.int .i64 c, .int .i64 d]] w fun e w' => e = .returned (.bool (lessB a b c d)) ∧ Fr w w' [] := by
 refine enterD (n := 24) Try.func68 rfl rfl (Nat.le_of_ble_eq_true rfl) ?_
 intro Q0 hN hret hret'
 have hC := Cx.start w
 refine WCs (fun K1 hK2 => ?_)
 refine WCg ?_
 refine WL.newM hC (fun b => .pointer (some ⟨b, 0, none⟩)) (.cells #[.int .i64 a, .int .i64 b] 50) 2 (fun _ => by kernel_rfl) (fun g3 w4 hb7 hF5 hC6 => ?_)
 refine WL.newM hC6 (fun b => .pointer (some ⟨b, 0, none⟩)) (.cells #[.int .i64 c, .int .i64 d] 50) 3 (fun _ => by kernel_rfl) (fun g8 w9 hb12 hF10 hC11 => ?_)
 refine WLr 1 [(4, .bool false)] (fun _ => by kernel_rfl) (WLd rfl (QXn (hK2 _ _ ?_)))
 refine WCs (fun K13 hK14 => ?_)
 refine WCg (WLr 1 [(5, .pointer (some ⟨g3, 0, none⟩))] (fun _ => by kernel_rfl) ?_)
 refine WL.load 3 (.pointer (some ⟨g3, 0, none⟩)) (.int .i64 a) 6 (by kernel_rfl) (run_ld (hC11.get 0 rfl) rfl) ?_
 refine WLr 1 [(7, .pointer (some ⟨g8, 0, none⟩))] (fun _ => by kernel_rfl) ?_
 refine WL.load 3 (.pointer (some ⟨g8, 0, none⟩)) (.int .i64 c) 8 (by kernel_rfl) (run_ld (hC11.get 1 rfl) rfl) ?_
 refine WLr 2 [(10, .bool (decide (a < c))), (9, .bool (decide (a < c)))] (fun _ => by kernel_rfl) ?_
 refine WLa 10 (decide (a < c)) rfl (fun t15b => ?_) (fun t15b => ?_)
 ·
  have t15 : a < c := by have q_ := of_decide_eq_true t15b; omega
  refine WLr 14 [(4, .bool true), (23, .bool true), (22, undef), (21, undef), (20, undef), (19, undef), (18, undef), (17, undef), (16, undef), (15, undef), (14, undef), (13, undef), (12, undef), (11, undef)] (fun _ => by kernel_rfl) (WLd rfl (QXn (hK14 _ _ ?_)))
  refine WC.ret ?_
  refine (hret _ _ _ rfl ?_).1
  clear hN hret hret' hK14 hK2
  have hg_ : (true : Bool) = lessB a b c d := by unfold lessB; first | (rw [decide_eq_true (by omega)]; done) | (rw [decide_eq_false (by omega)]; done) | (rw [Bool.eq_iff_iff]; simp; omega)
  exact ⟨congrArg (fun b_ => Ending.returned (Value.bool b_)) hg_, hC11.fr⟩
 ·
  have t15 : c ≤ a := by have q_ := of_decide_eq_false t15b; omega
  refine WLr 1 [(11, .pointer (some ⟨g3, 0, none⟩))] (fun _ => by kernel_rfl) ?_
  refine WL.load 3 (.pointer (some ⟨g3, 0, none⟩)) (.int .i64 a) 12 (by kernel_rfl) (run_ld (hC11.get 0 rfl) rfl) ?_
  refine WLr 1 [(13, .pointer (some ⟨g8, 0, none⟩))] (fun _ => by kernel_rfl) ?_
  refine WL.load 3 (.pointer (some ⟨g8, 0, none⟩)) (.int .i64 c) 14 (by kernel_rfl) (run_ld (hC11.get 1 rfl) rfl) ?_
  refine WLr 2 [(16, .bool (a == c)), (15, .bool (a == c))] (fun _ => by kernel_rfl) ?_
  refine WLa 16 (a == c) rfl (fun t16b => ?_) (fun t16b => ?_)
  ·
   have t16 : a = c := by simpa using t16b
   refine WLr 1 [(17, .pointer (some ⟨g3, 1, none⟩))] (fun _ => by kernel_rfl) ?_
   refine WL.load 3 (.pointer (some ⟨g3, 1, none⟩)) (.int .i64 b) 18 (by kernel_rfl) (run_ld (hC11.get 0 rfl) rfl) ?_
   refine WLr 1 [(19, .pointer (some ⟨g8, 1, none⟩))] (fun _ => by kernel_rfl) ?_
   refine WL.load 3 (.pointer (some ⟨g8, 1, none⟩)) (.int .i64 d) 20 (by kernel_rfl) (run_ld (hC11.get 1 rfl) rfl) ?_
   refine WLr 4 [(4, .bool (decide (b < d))), (23, .bool (decide (b < d))), (22, .bool (decide (b < d))), (21, .bool (decide (b < d)))] (fun _ => by kernel_rfl) (WLd rfl (QXn (hK14 _ _ ?_)))
   refine WC.ret ?_
   refine (hret _ _ _ rfl ?_).1
   clear hN hret hret' hK14 hK2
   have hg_ : ((decide (b < d)) : Bool) = lessB a b c d := by unfold lessB; first | (rw [decide_eq_true (by omega)]; done) | (rw [decide_eq_false (by omega)]; done) | (rw [Bool.eq_iff_iff]; simp; omega)
   exact ⟨congrArg (fun b_ => Ending.returned (Value.bool b_)) hg_, hC11.fr⟩
  ·
   have t16 : ¬ (a = c) := by simpa using t16b
   refine WLr 8 [(4, .bool false), (23, .bool false), (22, .bool false), (21, undef), (20, undef), (19, undef), (18, undef), (17, undef)] (fun _ => by kernel_rfl) (WLd rfl (QXn (hK14 _ _ ?_)))
   refine WC.ret ?_
   refine (hret _ _ _ rfl ?_).1
   clear hN hret hret' hK14 hK2
   have hg_ : (false : Bool) = lessB a b c d := by unfold lessB; first | (rw [decide_eq_true (by omega)]; done) | (rw [decide_eq_false (by omega)]; done) | (rw [Bool.eq_iff_iff]; simp; omega)
   exact ⟨congrArg (fun b_ => Ending.returned (Value.bool b_)) hg_, hC11.fr⟩

theorem RPrep_no (p : Nat) (V : Vo) (Am : Option Addr) (nm cm : Nat) (n d : Int) (w : World) (hp : w.heap[p]? = some (.cells #[.int .i64 V.node, .int .i64 V.pn, .int .i64 V.pd, .int .i64 V.an, .int .i64 V.ad, .slice Am nm cm] 84 (0, 0))) (hE : askedE V n d ≠ 0) : Calls Try.prog 36 #[.pointer (some ⟨p, 0, none⟩), .agg #[.int .i64 n, .int .i64 d]] w fun e w' => e = .returned (.tuple #[.agg #[.int .i64 0, .int .i64 0], .slice none 0 0, .int .i64 (askedE V n d)]) ∧ Fr w w' [] := by
 refine enterD (n := 30) Try.func36 rfl rfl (Nat.le_of_ble_eq_true rfl) ?_
 intro Q0 hN hret hret'
 have hC := Cx.startMs w [(p, .cells #[.int .i64 V.node, .int .i64 V.pn, .int .i64 V.pd, .int .i64 V.an, .int .i64 V.ad, .slice Am nm cm] 84)] (by simp) (by simp [hp])
 refine WCs (fun K1 hK2 => ?_)
 refine WCg ?_
 refine WL.newM hC (fun b => .pointer (some ⟨b, 0, none⟩)) (.cells #[.int .i64 n, .int .i64 d] 50) 3 (fun _ => by kernel_rfl) (fun g3 w4 hb7 hF5 hC6 => ?_)
 have hf8 := (Fr.refl w []).trans hF5 (by simp)
 refine WL.newM hC6 (fun b => .pointer (some ⟨b, 0, none⟩)) (.cells #[.int .i64 0, .int .i64 0] 50) 4 (fun _ => by kernel_rfl) (fun g9 w10 hb13 hF11 hC12 => ?_)
 have hf14 := hf8.trans hF11 (by simp)
 refine WLr 2 [(6, .int .i64 0), (5, .slice none 0 0)] (fun _ => by kernel_rfl) (WLd rfl (QXn (hK2 _ _ ?_)))
 refine WCs (fun K15 hK16 => ?_)
 refine WCs (fun K17 hK18 => ?_)
 refine WCg ?_
 refine WL.load 50 (.pointer (some ⟨g3, 0, none⟩)) (.agg #[.int .i64 n, .int .i64 d]) 7 (by kernel_rfl) (run_ld (hC12.get 1 rfl) rfl) ?_
 refine WLc rfl rfl rfl rfl rfl (by kernel_rfl) (RGoodB_ct n d w10) ?_
 rintro _ w20 ⟨rfl, hF19⟩
 refine ⟨_, rfl, ?_⟩
 have hC21 := hC12.call hF19
 have hf22 := hf14.trans hF19 (by simp)
 refine WLr 1 [(9, .bool (!(goodBal n d)))] (fun _ => by kernel_rfl) (WLd rfl (QXn (hK18 _ _ ?_)))
 refine WCa 9 (!(goodBal n d)) rfl (fun t23b => ?_) (fun t23b => ?_)
 ·
  have t23 : (goodBal n d) = false := by first | (simpa only [Bool.not_eq_true', Bool.not_eq_false'] using t23b) | simpa using t23b
  refine WCt rfl ?_
  refine WCs (fun K24 hK25 => ?_)
  refine WCg (WLr 1 [(10, .agg #[.int .i64 0, .int .i64 0])] (fun _ => by kernel_rfl) ?_)
  refine WLs (c' := #[.int .i64 0, .int .i64 0]) hC21 2 50 g9 0 (.agg #[.int .i64 0, .int .i64 0]) (by kernel_rfl) rfl (by kernel_rfl) (fun w26 hF28 hC29 => ?_)
  refine WLr 2 [(6, .int .i64 9), (5, .slice none 0 0)] (fun _ => by kernel_rfl) (WLd rfl (QXn (hK25 _ _ ?_)))
  refine WC.ret ?_
  refine QXr ?_
  refine (hret' _ _ (.tuple #[.agg #[.int .i64 0, .int .i64 0], .slice none 0 0, .int .i64 9]) (fun a ha => ?_) ?_).1
  ·
   exact res_run ha ((ResR.cell rfl (run_ld (hC29.get 2 rfl) rfl) (ResR.tmp rfl (ResR.tmp rfl ResR.nil)))) rfl
  clear hN hret hret' hK25 hK18 hK16 hK2
  have g_ : goodBal n d = false := (by simpa using t23b)
  have a_ : askedE V n d = 9 := by unfold askedE; rw [if_pos g_]
  rw [a_]
  exact ⟨rfl, (hC29.fr.shrink (by intro x_ hx_; simp at hx_; subst hx_; exact (hC29.get 0 rfl).trans hp.symm))⟩
 ·
  have t23 : (goodBal n d) = true := by first | (simpa only [Bool.not_eq_true', Bool.not_eq_false'] using t23b) | simpa using t23b
  refine WCf rfl (WC.skip (QXn (hK16 _ _ ?_)))
  refine WCs (fun K30 hK31 => ?_)
  refine WCs (fun K32 hK33 => ?_)
  refine WC.drawC hC21 [] (by kernel_rfl) (fun w34 hF35 hC36 hS37 => ?_)
  have hf38 := hf22.trans hF35 (by simp)
  refine WDp (NPt (NPt hN)) 1 12 (.pointer (some ⟨p, 0, none⟩)) (by kernel_rfl) (fun _ => by kernel_rfl) hS37 ?_
  refine WDp (NPt (NPt hN)) 2 13 (.pointer (some ⟨p, 0, none⟩)) (by kernel_rfl) (fun _ => by kernel_rfl) hS37 ?_
  refine WDp (NPt (NPt hN)) 3 14 (.pointer (some ⟨p, 1, none⟩)) (by kernel_rfl) (fun _ => by kernel_rfl) hS37 ?_
  refine WDl (NPt (NPt hN)) 0 50 (.pointer (some ⟨g3, 0, none⟩)) (.agg #[.int .i64 n, .int .i64 d]) 11 (by kernel_rfl) (by kernel_rfl) (fun _ hS_ => run_ld (Fr.has hS_ (hC36.get 1 rfl) (by simp)) rfl) hS37 ?_
  refine WDl (NPt (NPt hN)) 4 50 (.pointer (some ⟨p, 1, none⟩)) (.agg #[.int .i64 V.pn, .int .i64 V.pd]) 15 (by kernel_rfl) (by kernel_rfl) (fun _ hS_ => run_ld (Fr.has hS_ (hC36.get 0 rfl) (by simp)) rfl) hS37 ?_
  refine WD.call 5 (by kernel_rfl) rfl rfl rfl rfl rfl (by kernel_rfl) (RLess_ct n d V.pn V.pd w34) ?_
  rintro _ w40 ⟨rfl, hF39⟩
  have hS42 := hS37.trans hF39 (by simp)
  refine ⟨_, rfl, hS42, ?_⟩
  have hC41 := hC36.call hF39
  have hf43 := hf38.trans hF39 (by simp)
  refine WD.done (by kernel_rfl) ?_
  refine QXn (hK33 _ _ ?_)
  refine WCa 16 (lessB n d V.pn V.pd) rfl (fun t44b => ?_) (fun t44b => ?_)
  ·
   refine WCt rfl ?_
   refine WCs (fun K45 hK46 => ?_)
   refine WCg (WLr 1 [(17, .agg #[.int .i64 0, .int .i64 0])] (fun _ => by kernel_rfl) ?_)
   refine WLs (c' := #[.int .i64 0, .int .i64 0]) hC41 2 50 g9 0 (.agg #[.int .i64 0, .int .i64 0]) (by kernel_rfl) rfl (by kernel_rfl) (fun w47 hF49 hC50 => ?_)
   refine WLr 2 [(6, .int .i64 8), (5, .slice none 0 0)] (fun _ => by kernel_rfl) (WLd rfl (QXn (hK46 _ _ ?_)))
   refine WC.ret ?_
   refine QXr ?_
   refine (hret' _ _ (.tuple #[.agg #[.int .i64 0, .int .i64 0], .slice none 0 0, .int .i64 8]) (fun a ha => ?_) ?_).1
   ·
    exact res_run ha ((ResR.cell rfl (run_ld (hC50.get 2 rfl) rfl) (ResR.tmp rfl (ResR.tmp rfl ResR.nil)))) rfl
   clear hN hret hret' hK46 hK33 hK31 hK18 hK16 hK2
   have a_ : askedE V n d = 8 := by unfold askedE; rw [if_neg (by have g_ : goodBal n d = true := (by simpa using t23b); rw [g_]; decide), if_pos t44b]
   rw [a_]
   exact ⟨rfl, (hC50.fr.shrink (by intro x_ hx_; simp at hx_; subst hx_; exact (hC50.get 0 rfl).trans hp.symm))⟩
  ·
   exfalso; apply hE; unfold askedE; simp_all

theorem RPrep_yes (p : Nat) (V : Vo) (Am : Option Addr) (nm cm : Nat) (n d : Int) (w : World) (hp : w.heap[p]? = some (.cells #[.int .i64 V.node, .int .i64 V.pn, .int .i64 V.pd, .int .i64 V.an, .int .i64 V.ad, .slice Am nm cm] 84 (0, 0))) (hE : askedE V n d = 0) : Calls Try.prog 36 #[.pointer (some ⟨p, 0, none⟩), .agg #[.int .i64 n, .int .i64 d]] w fun e w' => e = .returned (.tuple #[.agg #[.int .i64 V.an, .int .i64 V.ad], .slice Am nm cm, .int .i64 0]) ∧ Fr w w' [p] ∧ w'.heap[p]? = some (.cells #[.int .i64 V.node, .int .i64 n, .int .i64 d, .int .i64 V.an, .int .i64 V.ad, .slice Am nm cm] 84 (0, 0)) := by
 refine enterD (n := 30) Try.func36 rfl rfl (Nat.le_of_ble_eq_true rfl) ?_
 intro Q0 hN hret hret'
 have hC := Cx.startMs w [(p, .cells #[.int .i64 V.node, .int .i64 V.pn, .int .i64 V.pd, .int .i64 V.an, .int .i64 V.ad, .slice Am nm cm] 84)] (by simp) (by simp [hp])
 refine WCs (fun K1 hK2 => ?_)
 refine WCg ?_
 refine WL.newM hC (fun b => .pointer (some ⟨b, 0, none⟩)) (.cells #[.int .i64 n, .int .i64 d] 50) 3 (fun _ => by kernel_rfl) (fun g3 w4 hb7 hF5 hC6 => ?_)
 have hf8 := (Fr.refl w []).trans hF5 (by simp)
 refine WL.newM hC6 (fun b => .pointer (some ⟨b, 0, none⟩)) (.cells #[.int .i64 0, .int .i64 0] 50) 4 (fun _ => by kernel_rfl) (fun g9 w10 hb13 hF11 hC12 => ?_)
 have hf14 := hf8.trans hF11 (by simp)
 refine WLr 2 [(6, .int .i64 0), (5, .slice none 0 0)] (fun _ => by kernel_rfl) (WLd rfl (QXn (hK2 _ _ ?_)))
 refine WCs (fun K15 hK16 => ?_)
 refine WCs (fun K17 hK18 => ?_)
 refine WCg ?_
 refine WL.load 50 (.pointer (some ⟨g3, 0, none⟩)) (.agg #[.int .i64 n, .int .i64 d]) 7 (by kernel_rfl) (run_ld (hC12.get 1 rfl) rfl) ?_
 refine WLc rfl rfl rfl rfl rfl (by kernel_rfl) (RGoodB_ct n d w10) ?_
 rintro _ w20 ⟨rfl, hF19⟩
 refine ⟨_, rfl, ?_⟩
 have hC21 := hC12.call hF19
 have hf22 := hf14.trans hF19 (by simp)
 refine WLr 1 [(9, .bool (!(goodBal n d)))] (fun _ => by kernel_rfl) (WLd rfl (QXn (hK18 _ _ ?_)))
 refine WC.know 9 (.bool (!(goodBal n d))) (.bool false) rfl (congrArg Value.bool (by simp [(asked_yes hE).1])) ?_
 refine WCf rfl (WC.skip (QXn (hK16 _ _ ?_)))
 refine WCs (fun K23 hK24 => ?_)
 refine WCs (fun K25 hK26 => ?_)
 refine WC.drawC hC21 [] (by kernel_rfl) (fun w27 hF28 hC29 hS30 => ?_)
 have hf31 := hf22.trans hF28 (by simp)
 refine WDp (NPt (NPt hN)) 1 12 (.pointer (some ⟨p, 0, none⟩)) (by kernel_rfl) (fun _ => by kernel_rfl) hS30 ?_
 refine WDp (NPt (NPt hN)) 2 13 (.pointer (some ⟨p, 0, none⟩)) (by kernel_rfl) (fun _ => by kernel_rfl) hS30 ?_
 refine WDp (NPt (NPt hN)) 3 14 (.pointer (some ⟨p, 1, none⟩)) (by kernel_rfl) (fun _ => by kernel_rfl) hS30 ?_
 refine WDl (NPt (NPt hN)) 0 50 (.pointer (some ⟨g3, 0, none⟩)) (.agg #[.int .i64 n, .int .i64 d]) 11 (by kernel_rfl) (by kernel_rfl) (fun _ hS_ => run_ld (Fr.has hS_ (hC29.get 1 rfl) (by simp)) rfl) hS30 ?_
 refine WDl (NPt (NPt hN)) 4 50 (.pointer (some ⟨p, 1, none⟩)) (.agg #[.int .i64 V.pn, .int .i64 V.pd]) 15 (by kernel_rfl) (by kernel_rfl) (fun _ hS_ => run_ld (Fr.has hS_ (hC29.get 0 rfl) (by simp)) rfl) hS30 ?_
 refine WD.call 5 (by kernel_rfl) rfl rfl rfl rfl rfl (by kernel_rfl) (RLess_ct n d V.pn V.pd w27) ?_
 rintro _ w33 ⟨rfl, hF32⟩
 have hS35 := hS30.trans hF32 (by simp)
 refine ⟨_, rfl, hS35, ?_⟩
 have hC34 := hC29.call hF32
 have hf36 := hf31.trans hF32 (by simp)
 refine WD.done (by kernel_rfl) ?_
 refine QXn (hK26 _ _ ?_)
 refine WC.know 16 (.bool (lessB n d V.pn V.pd)) (.bool false) rfl (congrArg Value.bool (by exact (asked_yes hE).2)) ?_
 refine WCf rfl (WC.skip (QXn (hK24 _ _ ?_)))
 refine WCs (fun K37 hK38 => ?_)
 refine WCg (WLr 1 [(18, .pointer (some ⟨p, 0, none⟩))] (fun _ => by kernel_rfl) ?_)
 refine WL.load 50 (.pointer (some ⟨g3, 0, none⟩)) (.agg #[.int .i64 n, .int .i64 d]) 19 (by kernel_rfl) (run_ld (hC34.get 1 rfl) rfl) ?_
 refine WLr 2 [(21, .pointer (some ⟨p, 1, none⟩)), (20, .pointer (some ⟨p, 0, none⟩))] (fun _ => by kernel_rfl) ?_
 refine WLs (c' := #[.int .i64 V.node, .int .i64 n, .int .i64 d, .int .i64 V.an, .int .i64 V.ad, .slice Am nm cm]) hC34 0 50 p 1 (.agg #[.int .i64 n, .int .i64 d]) (by kernel_rfl) rfl (by kernel_rfl) (fun w39 hF41 hC42 => ?_)
 refine WLd rfl (QXn (hK38 _ _ ?_))
 refine WCs (fun K43 hK44 => ?_)
 refine WC.drawC hC42 [g9] (by kernel_rfl) (fun w45 hF46 hC47 hS48 => ?_)
 refine WDp (NPt hN) 0 22 (.pointer (some ⟨p, 0, none⟩)) (by kernel_rfl) (fun _ => by kernel_rfl) hS48 ?_
 refine WDp (NPt hN) 1 23 (.pointer (some ⟨p, 0, none⟩)) (by kernel_rfl) (fun _ => by kernel_rfl) hS48 ?_
 refine WDp (NPt hN) 2 24 (.pointer (some ⟨p, 3, none⟩)) (by kernel_rfl) (fun _ => by kernel_rfl) hS48 ?_
 refine WDp (NPt hN) 4 26 (.pointer (some ⟨p, 0, none⟩)) (by kernel_rfl) (fun _ => by kernel_rfl) hS48 ?_
 refine WDp (NPt hN) 5 27 (.pointer (some ⟨p, 0, none⟩)) (by kernel_rfl) (fun _ => by kernel_rfl) hS48 ?_
 refine WDp (NPt hN) 6 28 (.pointer (some ⟨p, 5, none⟩)) (by kernel_rfl) (fun _ => by kernel_rfl) hS48 ?_
 refine WDl (NPt hN) 3 50 (.pointer (some ⟨p, 3, none⟩)) (.agg #[.int .i64 V.an, .int .i64 V.ad]) 25 (by kernel_rfl) (by kernel_rfl) (fun _ hS_ => run_ld (Fr.has hS_ (hC47.get 0 rfl) (by simpa using hC47.ne 0 2 rfl rfl (by decide))) rfl) hS48 ?_
 refine WDl (NPt hN) 7 25 (.pointer (some ⟨p, 5, none⟩)) (.slice Am nm cm) 29 (by kernel_rfl) (by kernel_rfl) (fun _ hS_ => run_ld (Fr.has hS_ (hC47.get 0 rfl) (by simpa using hC47.ne 0 2 rfl rfl (by decide))) rfl) hS48 ?_
 obtain ⟨w49, hr50, hF51, hC52⟩ := sto_run (c' := #[.int .i64 V.an, .int .i64 V.ad]) Try.prog hC47 2 50 g9 0 (.agg #[.int .i64 V.an, .int .i64 V.ad]) rfl (by kernel_rfl)
 have hS53 := hS48.trans hF51 (by first | (simp; done) | (simp [*]; done) | (have q_ := hS48.size; simp; omega))
 refine WD.semU 8 (Instr.storeAt 50 (.pointer (some ⟨g9, 0, none⟩)) (.agg #[.int .i64 V.an, .int .i64 V.ad])) (by kernel_rfl) (by kernel_rfl) hr50 hS53 ?_
 refine WDp (NPt hN) 9 5 (.slice Am nm cm) (by kernel_rfl) (fun _ => by kernel_rfl) hS53 ?_
 refine WDp (NPt hN) 10 6 (.int .i64 0) (by kernel_rfl) (fun _ => by kernel_rfl) hS53 ?_
 refine WD.done (by kernel_rfl) ?_
 refine QXn (hK44 _ _ ?_)
 refine WC.ret ?_
 refine (hret' _ _ (.tuple #[.agg #[.int .i64 V.an, .int .i64 V.ad], .slice Am nm cm, .int .i64 0]) (fun a ha => ?_) ?_).1
 ·
  exact res_run ha ((ResR.cell rfl (run_ld (hC52.get 2 rfl) rfl) (ResR.tmp rfl (ResR.tmp rfl ResR.nil)))) rfl
 exact ⟨rfl, hC52.fr, hC52.get 0 rfl⟩

theorem RAcc_no (p : Nat) (V : Vo) (Am : Option Addr) (nm cm : Nat) (n d : Int) (A : Option Addr) (c : Nat) (L : List Cmd) (w : World) (hp : w.heap[p]? = some (.cells #[.int .i64 V.node, .int .i64 V.pn, .int .i64 V.pd, .int .i64 V.an, .int .i64 V.ad, .slice Am nm cm] 84 (0, 0))) (hr : Rd w 12 cellsC A L) (hL : ∀ m ∈ L, cmdAt w m) (hE : acceptE V n d (vals L) ≠ 0) : Calls Try.prog 37 #[.pointer (some ⟨p, 0, none⟩), .agg #[.int .i64 n, .int .i64 d], .slice A L.length c] w fun e w' => e = .returned (.int .i64 (acceptE V n d (vals L))) ∧ Fr w w' [] := by
 refine enterD (n := 34) Try.func37 rfl rfl (Nat.le_of_ble_eq_true rfl) ?_
 intro Q0 hN hret hret'
 have hC := Cx.startMs w [(p, .cells #[.int .i64 V.node, .int .i64 V.pn, .int .i64 V.pd, .int .i64 V.an, .int .i64 V.ad, .slice Am nm cm] 84)] (by simp) (by simp [hp])
 refine WCs (fun K1 hK2 => ?_)
 refine WCg ?_
 refine WL.newM hC (fun b => .pointer (some ⟨b, 0, none⟩)) (.cells #[.int .i64 n, .int .i64 d] 50) 4 (fun _ => by kernel_rfl) (fun g3 w4 hb7 hF5 hC6 => ?_)
 have hf8 := (Fr.refl w []).trans hF5 (by simp)
 refine WLr 1 [(6, .int .i64 0)] (fun _ => by kernel_rfl) (WLd rfl (QXn (hK2 _ _ ?_)))
 refine WCs (fun K9 hK10 => ?_)
 refine WCs (fun K11 hK12 => ?_)
 refine WCg ?_
 refine WL.load 50 (.pointer (some ⟨g3, 0, none⟩)) (.agg #[.int .i64 n, .int .i64 d]) 7 (by kernel_rfl) (run_ld (hC6.get 1 rfl) rfl) ?_
 refine WLc rfl rfl rfl rfl rfl (by kernel_rfl) (RGoodB_ct n d w4) ?_
 rintro _ w14 ⟨rfl, hF13⟩
 refine ⟨_, rfl, ?_⟩
 have hC15 := hC6.call hF13
 have hf16 := hf8.trans hF13 (by simp)
 refine WLr 2 [(10, .bool (!(goodBal n d))), (9, .bool (!(goodBal n d)))] (fun _ => by kernel_rfl) ?_
 refine WLa 10 (!(goodBal n d)) rfl (fun t17b => ?_) (fun t17b => ?_)
 ·
  have t17 : (goodBal n d) = false := by first | (simpa only [Bool.not_eq_true', Bool.not_eq_false'] using t17b) | simpa using t17b
  refine WLr 4 [(14, .bool true), (13, undef), (12, undef), (11, undef)] (fun _ => by kernel_rfl) (WLd rfl (QXn (hK12 _ _ ?_)))
  refine WCt rfl ?_
  refine WCs (fun K18 hK19 => ?_)
  refine WCg (WLr 1 [(6, .int .i64 9)] (fun _ => by kernel_rfl) (WLd rfl (QXn (hK19 _ _ ?_))))
  refine WC.ret ?_
  refine QXr ?_
  refine (hret _ _ _ rfl ?_).1
  clear hN hret hret' hK19 hK12 hK10 hK2
  have g_ : goodBal n d = false ∨ goodL (vals L) = false := .inl (by simpa using t17b)
  have a_ : acceptE V n d (vals L) = 9 := by unfold acceptE; rw [if_pos g_]
  rw [a_]
  exact ⟨rfl, hf16⟩
 ·
  have t17 : (goodBal n d) = true := by first | (simpa only [Bool.not_eq_true', Bool.not_eq_false'] using t17b) | simpa using t17b
  refine WLr 1 [(11, .slice A L.length c)] (fun _ => by kernel_rfl) ?_
  refine WLc rfl rfl rfl rfl rfl (by kernel_rfl) (RGoodLog_n A L.length c L w14 (Rd.fr hr hf16) rfl (fun m_ h_ => cmdAt.fr0 (hL m_ h_) hf16)) ?_
  rintro _ w21 ⟨rfl, hF20⟩
  refine ⟨_, rfl, ?_⟩
  have hC22 := hC15.call hF20
  have hf23 := hf16.trans hF20 (by simp)
  refine WLr 2 [(14, .bool (!(goodL (vals L)))), (13, .bool (!(goodL (vals L))))] (fun _ => by kernel_rfl) (WLd rfl (QXn (hK12 _ _ ?_)))
  refine WCa 14 (!(goodL (vals L))) rfl (fun t24b => ?_) (fun t24b => ?_)
  ·
   have t24 : (goodL (vals L)) = false := by first | (simpa only [Bool.not_eq_true', Bool.not_eq_false'] using t24b) | simpa using t24b
   refine WCt rfl ?_
   refine WCs (fun K25 hK26 => ?_)
   refine WCg (WLr 1 [(6, .int .i64 9)] (fun _ => by kernel_rfl) (WLd rfl (QXn (hK26 _ _ ?_))))
   refine WC.ret ?_
   refine QXr ?_
   refine (hret _ _ _ rfl ?_).1
   clear hN hret hret' hK26 hK12 hK10 hK2
   have g_ : goodBal n d = false ∨ goodL (vals L) = false := .inr (by simpa using t24b)
   have a_ : acceptE V n d (vals L) = 9 := by unfold acceptE; rw [if_pos g_]
   rw [a_]
   exact ⟨rfl, hf23⟩
  ·
   have t24 : (goodL (vals L)) = true := by first | (simpa only [Bool.not_eq_true', Bool.not_eq_false'] using t24b) | simpa using t24b
   refine WCf rfl (WC.skip (QXn (hK10 _ _ ?_)))
   refine WCs (fun K27 hK28 => ?_)
   refine WCs (fun K29 hK30 => ?_)
   refine WC.drawC hC22 [] (by kernel_rfl) (fun w31 hF32 hC33 hS34 => ?_)
   have hf35 := hf23.trans hF32 (by simp)
   refine WDp (NPt (NPt hN)) 1 16 (.pointer (some ⟨p, 0, none⟩)) (by kernel_rfl) (fun _ => by kernel_rfl) hS34 ?_
   refine WDp (NPt (NPt hN)) 2 17 (.pointer (some ⟨p, 0, none⟩)) (by kernel_rfl) (fun _ => by kernel_rfl) hS34 ?_
   refine WDp (NPt (NPt hN)) 3 18 (.pointer (some ⟨p, 1, none⟩)) (by kernel_rfl) (fun _ => by kernel_rfl) hS34 ?_
   refine WDl (NPt (NPt hN)) 0 50 (.pointer (some ⟨g3, 0, none⟩)) (.agg #[.int .i64 n, .int .i64 d]) 15 (by kernel_rfl) (by kernel_rfl) (fun _ hS_ => run_ld (Fr.has hS_ (hC33.get 1 rfl) (by simp)) rfl) hS34 ?_
   refine WDl (NPt (NPt hN)) 4 50 (.pointer (some ⟨p, 1, none⟩)) (.agg #[.int .i64 V.pn, .int .i64 V.pd]) 19 (by kernel_rfl) (by kernel_rfl) (fun _ hS_ => run_ld (Fr.has hS_ (hC33.get 0 rfl) (by simp)) rfl) hS34 ?_
   refine WD.call 5 (by kernel_rfl) rfl rfl rfl rfl rfl (by kernel_rfl) (RLess_ct n d V.pn V.pd w31) ?_
   rintro _ w37 ⟨rfl, hF36⟩
   have hS39 := hS34.trans hF36 (by simp)
   refine ⟨_, rfl, hS39, ?_⟩
   have hC38 := hC33.call hF36
   have hf40 := hf35.trans hF36 (by simp)
   refine WD.done (by kernel_rfl) ?_
   refine QXn (hK30 _ _ ?_)
   refine WCa 20 (lessB n d V.pn V.pd) rfl (fun t41b => ?_) (fun t41b => ?_)
   ·
    refine WCt rfl ?_
    refine WCs (fun K42 hK43 => ?_)
    refine WCg (WLr 1 [(6, .int .i64 8)] (fun _ => by kernel_rfl) (WLd rfl (QXn (hK43 _ _ ?_))))
    refine WC.ret ?_
    refine QXr ?_
    refine (hret _ _ _ rfl ?_).1
    clear hN hret hret' hK43 hK30 hK28 hK12 hK10 hK2
    have g_ : goodBal n d = true := (by simpa using t17b)
    have l_ : goodL (vals L) = true := (by simpa using t24b)
    have a_ : acceptE V n d (vals L) = 8 := by unfold acceptE askedE; rw [if_neg (by rw [g_, l_]; simp), if_neg (by rw [g_]; decide), if_pos t41b]
    rw [a_]
    exact ⟨rfl, hf40⟩
   ·
    exfalso; apply hE; unfold acceptE askedE; simp_all

theorem RAcc_yes (p : Nat) (V : Vo) (Am : Option Addr) (nm cm : Nat) (n d : Int) (A : Option Addr) (c : Nat) (L : List Cmd) (w : World) (hp : w.heap[p]? = some (.cells #[.int .i64 V.node, .int .i64 V.pn, .int .i64 V.pd, .int .i64 V.an, .int .i64 V.ad, .slice Am nm cm] 84 (0, 0))) (hr : Rd w 12 cellsC A L) (hL : ∀ m ∈ L, cmdAt w m) (hll : L.length ≤ 1099511627776) (hAp : 0 < L.length → ∀ b off, A = some ⟨b, off, none⟩ → b ∉ [p]) (hLp : ∀ m ∈ L, 0 < m.v.ends.length → ∀ b off, m.a = some ⟨b, off, none⟩ → b ∉ [p]) (hE : acceptE V n d (vals L) = 0) : Calls Try.prog 37 #[.pointer (some ⟨p, 0, none⟩), .agg #[.int .i64 n, .int .i64 d], .slice A L.length c] w fun e w' => ∃ (A2 : Option Addr) (c2 : Nat) (L2 : List Cmd) (R2 : List Nat), e = .returned (.int .i64 0) ∧ Fr w w' [p] ∧ w'.heap[p]? = some (.cells #[.int .i64 V.node, .int .i64 n, .int .i64 d, .int .i64 n, .int .i64 d, .slice A2 L2.length c2] 84 (0, 0)) ∧ w'.ownsRow w.heap.size 61 12 (.slice A2 L2.length c2) L2.length (L2.flatMap cellsC) ∧ logIn w' R2 L2 ∧ vals L2 = vals L ∧ (∀ x ∈ R2, w.heap.size ≤ x ∧ x < w'.heap.size) ∧ (∀ x ∈ blk (.slice A2 L2.length c2), x ∉ R2) := by
 refine enterD (n := 34) Try.func37 rfl rfl (Nat.le_of_ble_eq_true rfl) ?_
 intro Q0 hN hret hret'
 have hC := Cx.startMs w [(p, .cells #[.int .i64 V.node, .int .i64 V.pn, .int .i64 V.pd, .int .i64 V.an, .int .i64 V.ad, .slice Am nm cm] 84)] (by simp) (by simp [hp])
 refine WCs (fun K1 hK2 => ?_)
 refine WCg ?_
 refine WL.newM hC (fun b => .pointer (some ⟨b, 0, none⟩)) (.cells #[.int .i64 n, .int .i64 d] 50) 4 (fun _ => by kernel_rfl) (fun g3 w4 hb7 hF5 hC6 => ?_)
 have hf8 := (Fr.refl w []).trans hF5 (by simp)
 refine WLr 1 [(6, .int .i64 0)] (fun _ => by kernel_rfl) (WLd rfl (QXn (hK2 _ _ ?_)))
 refine WCs (fun K9 hK10 => ?_)
 refine WCs (fun K11 hK12 => ?_)
 refine WCg ?_
 refine WL.load 50 (.pointer (some ⟨g3, 0, none⟩)) (.agg #[.int .i64 n, .int .i64 d]) 7 (by kernel_rfl) (run_ld (hC6.get 1 rfl) rfl) ?_
 refine WLc rfl rfl rfl rfl rfl (by kernel_rfl) (RGoodB_ct n d w4) ?_
 rintro _ w14 ⟨rfl, hF13⟩
 refine ⟨_, rfl, ?_⟩
 have hC15 := hC6.call hF13
 have hf16 := hf8.trans hF13 (by simp)
 refine WLr 2 [(10, .bool (!(goodBal n d))), (9, .bool (!(goodBal n d)))] (fun _ => by kernel_rfl) ?_
 refine WL.know 10 (.bool (!(goodBal n d))) (.bool false) rfl (congrArg Value.bool (by simp [(asked_yes (accept_yes hE).1).1])) ?_
 refine WLr 1 [(11, .slice A L.length c)] (fun _ => by kernel_rfl) ?_
 refine WLc rfl rfl rfl rfl rfl (by kernel_rfl) (RGoodLog_n A L.length c L w14 (Rd.fr hr hf16) rfl (fun m_ h_ => cmdAt.fr0 (hL m_ h_) hf16)) ?_
 rintro _ w18 ⟨rfl, hF17⟩
 refine ⟨_, rfl, ?_⟩
 have hC19 := hC15.call hF17
 have hf20 := hf16.trans hF17 (by simp)
 refine WLr 2 [(14, .bool (!(goodL (vals L)))), (13, .bool (!(goodL (vals L))))] (fun _ => by kernel_rfl) (WLd rfl (QXn (hK12 _ _ ?_)))
 refine WC.know 14 (.bool (!(goodL (vals L)))) (.bool false) rfl (congrArg Value.bool (by simp [(accept_yes hE).2])) ?_
 refine WCf rfl (WC.skip (QXn (hK10 _ _ ?_)))
 refine WCs (fun K21 hK22 => ?_)
 refine WCs (fun K23 hK24 => ?_)
 refine WC.drawC hC19 [] (by kernel_rfl) (fun w25 hF26 hC27 hS28 => ?_)
 have hf29 := hf20.trans hF26 (by simp)
 refine WDp (NPt (NPt hN)) 1 16 (.pointer (some ⟨p, 0, none⟩)) (by kernel_rfl) (fun _ => by kernel_rfl) hS28 ?_
 refine WDp (NPt (NPt hN)) 2 17 (.pointer (some ⟨p, 0, none⟩)) (by kernel_rfl) (fun _ => by kernel_rfl) hS28 ?_
 refine WDp (NPt (NPt hN)) 3 18 (.pointer (some ⟨p, 1, none⟩)) (by kernel_rfl) (fun _ => by kernel_rfl) hS28 ?_
 refine WDl (NPt (NPt hN)) 0 50 (.pointer (some ⟨g3, 0, none⟩)) (.agg #[.int .i64 n, .int .i64 d]) 15 (by kernel_rfl) (by kernel_rfl) (fun _ hS_ => run_ld (Fr.has hS_ (hC27.get 1 rfl) (by simp)) rfl) hS28 ?_
 refine WDl (NPt (NPt hN)) 4 50 (.pointer (some ⟨p, 1, none⟩)) (.agg #[.int .i64 V.pn, .int .i64 V.pd]) 19 (by kernel_rfl) (by kernel_rfl) (fun _ hS_ => run_ld (Fr.has hS_ (hC27.get 0 rfl) (by simp)) rfl) hS28 ?_
 refine WD.call 5 (by kernel_rfl) rfl rfl rfl rfl rfl (by kernel_rfl) (RLess_ct n d V.pn V.pd w25) ?_
 rintro _ w31 ⟨rfl, hF30⟩
 have hS33 := hS28.trans hF30 (by simp)
 refine ⟨_, rfl, hS33, ?_⟩
 have hC32 := hC27.call hF30
 have hf34 := hf29.trans hF30 (by simp)
 refine WD.done (by kernel_rfl) ?_
 refine QXn (hK24 _ _ ?_)
 refine WC.know 20 (.bool (lessB n d V.pn V.pd)) (.bool false) rfl (congrArg Value.bool (by exact (asked_yes (accept_yes hE).1).2)) ?_
 refine WCf rfl (WC.skip (QXn (hK22 _ _ ?_)))
 refine WCs (fun K35 hK36 => ?_)
 refine WCg (WLr 1 [(21, .pointer (some ⟨p, 0, none⟩))] (fun _ => by kernel_rfl) ?_)
 refine WL.load 50 (.pointer (some ⟨g3, 0, none⟩)) (.agg #[.int .i64 n, .int .i64 d]) 22 (by kernel_rfl) (run_ld (hC32.get 1 rfl) rfl) ?_
 refine WLr 2 [(24, .pointer (some ⟨p, 1, none⟩)), (23, .pointer (some ⟨p, 0, none⟩))] (fun _ => by kernel_rfl) ?_
 refine WLs (c' := #[.int .i64 V.node, .int .i64 n, .int .i64 d, .int .i64 V.an, .int .i64 V.ad, .slice Am nm cm]) hC32 0 50 p 1 (.agg #[.int .i64 n, .int .i64 d]) (by kernel_rfl) rfl (by kernel_rfl) (fun w37 hF39 hC40 => ?_)
 refine WLd rfl (QXn (hK36 _ _ ?_))
 refine WCs (fun K41 hK42 => ?_)
 refine WCg (WLr 1 [(25, .pointer (some ⟨p, 0, none⟩))] (fun _ => by kernel_rfl) ?_)
 refine WL.load 50 (.pointer (some ⟨g3, 0, none⟩)) (.agg #[.int .i64 n, .int .i64 d]) 26 (by kernel_rfl) (run_ld (hC40.get 1 rfl) rfl) ?_
 refine WLr 2 [(28, .pointer (some ⟨p, 3, none⟩)), (27, .pointer (some ⟨p, 0, none⟩))] (fun _ => by kernel_rfl) ?_
 refine WLs (c' := #[.int .i64 V.node, .int .i64 n, .int .i64 d, .int .i64 n, .int .i64 d, .slice Am nm cm]) hC40 0 50 p 3 (.agg #[.int .i64 n, .int .i64 d]) (by kernel_rfl) rfl (by kernel_rfl) (fun w43 hF45 hC46 => ?_)
 refine WLd rfl (QXn (hK42 _ _ ?_))
 refine WCs (fun K47 hK48 => ?_)
 refine WCg (WLr 2 [(30, .slice A L.length c), (29, .pointer (some ⟨p, 0, none⟩))] (fun _ => by kernel_rfl) ?_)
 refine WLc rfl rfl rfl rfl rfl (by kernel_rfl) (RCopy_ct A c L w43 (Rd.frE hr hC46.fr (fun h0_ b_ off_ e_ => hAp h0_ b_ off_ e_)) (fun m_ h_ => cmdAt.frE (hL m_ h_) hC46.fr (hLp m_ h_)) hll) ?_
 rintro _ w54 ⟨A49, c50, L51, R52, rfl, hF53, ho55, hli56, hvv57, hRg58, hdd59⟩
 have hC60 := callNN hC46 hF53 (own_ge ho55) (own_lt ho55) (fun x_ h_ => (hRg58 x_ h_).1) (fun x_ h_ => (hRg58 x_ h_).2) hdd59
 have ho61 := own_base (b' := 0) ho55 (fun _ _ => Nat.zero_le _)
 refine ⟨_, rfl, ?_⟩
 refine WLr 2 [(33, .pointer (some ⟨p, 5, none⟩)), (32, .pointer (some ⟨p, 0, none⟩))] (fun _ => by kernel_rfl) ?_
 refine WLs (c' := #[.int .i64 V.node, .int .i64 n, .int .i64 d, .int .i64 n, .int .i64 d, .slice A49 L51.length c50]) hC60 0 25 p 5 (.slice A49 L51.length c50) (by kernel_rfl) rfl (by kernel_rfl) (fun w63 hF65 hC66 => ?_)
 have ho67 := own_fr ho61 hF65 (hC60.apartM 0 0 rfl rfl)
 have hl68 := logIn.fr hli56 hF65 (hC60.apartM 1 0 rfl rfl)
 refine WLd rfl (QXn (hK48 _ _ ?_))
 refine WCs (fun K69 hK70 => ?_)
 refine WCg (WLr 1 [(6, .int .i64 0)] (fun _ => by kernel_rfl) (WLd rfl (QXn (hK70 _ _ ?_))))
 refine WC.ret ?_
 refine (hret _ _ _ rfl ?_).1
 exact ⟨A49, c50, L51, R52, rfl, hC66.fr, hC66.get 0 rfl, own_base ho67 (newF_of hC66 0 rfl (by intro x_ hx_; simp at hx_; subst hx_; exact lt_of_heap hp) (by intro q_ hq_; simp at hq_; subst hq_; exact hC66.notin 0 0 rfl rfl)), hl68, hvv57, (fun x_ h_ => ⟨newF_of hC66 1 rfl (by intro x_ hx_; simp at hx_; subst hx_; exact lt_of_heap hp) (by intro q_ hq_; simp at hq_; subst hq_; exact hC66.notin 1 0 rfl rfl) x_ h_, hC66.ltF 1 rfl x_ h_⟩), hC66.disj 0 1 rfl rfl (by decide)⟩

theorem foldl_ge (l : List Int) : ∀ y : Int, y ≤ l.foldl max y := by
  induction l with
  | nil => intro y; exact Int.le_refl _
  | cons a r ih => intro y; exact Int.le_trans (Int.le_max_left y a) (ih (max y a))
theorem claim_eqR (V : Vo) (bs : List (Int × Int)) {i : Nat} (hi : bs.length ≤ i) {x : Int} (hx : ((bs.take i).map (·.1)).foldl max V.pn = x) (h0 : 0 ≤ V.pn) : (if 1099511627776 ≤ x then (1099511627775 : Int) else x) + 1 = claimN V (bs.map (·.1)) := by
  rw [List.take_of_length_le hi] at hx
  have := foldl_ge (bs.map (·.1)) V.pn
  unfold claimN
  rw [hx] at this ⊢
  split <;> omega
theorem max_stepL {bs : List (Int × Int)} {i : Nat} {b : Int × Int} {y x : Int} (h : bs[i]? = some b) (hx : ((bs.take i).map (·.1)).foldl max y = x) : (x < b.1 → ((bs.take (i + 1)).map (·.1)).foldl max y = b.1) ∧ (b.1 ≤ x → ((bs.take (i + 1)).map (·.1)).foldl max y = x) := by
  rw [max_take h, hx]
  exact ⟨fun h_ => by omega, fun h_ => by omega⟩
theorem RClaim_ct (p : Nat) (V : Vo) (Am : Option Addr) (nm cm : Nat) (A : Option Addr) (c : Nat) (bs : List (Int × Int)) (w : World) (hp : w.heap[p]? = some (.cells #[.int .i64 V.node, .int .i64 V.pn, .int .i64 V.pd, .int .i64 V.an, .int .i64 V.ad, .slice Am nm cm] 84 (0, 0))) (hr : Rd w 2 encBal A bs) (hbl : bs.length ≤ 1099511627776) (h0 : 0 ≤ V.pn) : Calls Try.prog 38 #[.pointer (some ⟨p, 0, none⟩), .slice A bs.length c] w fun e w' => e = .returned (.agg #[.int .i64 (claimN V (bs.map (·.1))), .int .i64 V.node]) ∧ Fr w w' [] := by
 refine enterD (n := 39) Try.func38 rfl rfl (Nat.le_of_ble_eq_true rfl) ?_
 intro Q0 hN hret hret'
 have hC := Cx.startMs w [(p, .cells #[.int .i64 V.node, .int .i64 V.pn, .int .i64 V.pd, .int .i64 V.an, .int .i64 V.ad, .slice Am nm cm] 84)] (by simp) (by simp [hp])
 refine WCs (fun K1 hK2 => ?_)
 refine WCg ?_
 refine WL.newM hC (fun b => .pointer (some ⟨b, 0, none⟩)) (.cells #[.int .i64 0, .int .i64 0] 50) 4 (fun _ => by kernel_rfl) (fun g3 w4 hb7 hF5 hC6 => ?_)
 have hf8 := (Fr.refl w []).trans hF5 (by simp)
 refine WLd rfl (QXn (hK2 _ _ ?_))
 refine WCs (fun K9 hK10 => ?_)
 refine WCg (WLr 4 [(10, .pointer (some ⟨p, 1, none⟩)), (9, .pointer (some ⟨p, 1, none⟩)), (8, .pointer (some ⟨p, 0, none⟩)), (7, .pointer (some ⟨p, 0, none⟩))] (fun _ => by kernel_rfl) ?_)
 refine WL.load 3 (.pointer (some ⟨p, 1, none⟩)) (.int .i64 V.pn) 11 (by kernel_rfl) (run_ld (hC6.get 0 rfl) rfl) ?_
 refine WLr 1 [(5, .int .i64 V.pn)] (fun _ => by kernel_rfl) (WLd rfl (QXn (hK10 _ _ ?_)))
 refine WCs (fun K11 hK12 => ?_)
 refine WCs (fun K13 hK14 => ?_)
 refine WCg (WLr 1 [(6, .int .i64 0)] (fun _ => by kernel_rfl) (WLd rfl (QXn (hK14 _ _ ?_))))
 refine WC.block ?_
 refine WC.loop (fun m_ E_ w_ => ∃ (i : Nat) (x : Int), m_ = bs.length - i ∧ E_ = [(0, .pointer (some ⟨p, 0, none⟩)), (1, .slice A bs.length c), (4, .pointer (some ⟨g3, 0, none⟩)), (5, .int .i64 x), (6, .int .i64 (i : Int))] ∧ Cx w [p] w_ [(p, .cells #[.int .i64 V.node, .int .i64 V.pn, .int .i64 V.pd, .int .i64 V.an, .int .i64 V.ad, .slice Am nm cm] 84), (g3, .cells #[.int .i64 0, .int .i64 0] 50)] [] ∧ Fr w w_ [] ∧ (i ≤ bs.length ∧ ((bs.take i).map (·.1)).foldl max V.pn = x)) ⟨_, _, ⟨0, V.pn, rfl, rfl, hC6, hf8, Nat.zero_le _, rfl⟩, sub_of ⟨rfl, rfl, rfl, rfl, rfl, trivial⟩⟩ (fun m18 E_ w19 K15 hK16 hI17 => ?_)
 obtain ⟨i, x, rfl, rfl, hC20, fr0_m18, hi, hx⟩ := hI17
 have hge_ := foldl_ge ((bs.take i).map (·.1)) V.pn
 rw [hx] at hge_
 refine WCs (fun K21 hK22 => ?_)
 refine WCs (fun K23 hK24 => ?_)
 refine WCg (WLr 4 [(15, .bool (decide ((i : Int) < (bs.length : Int)))), (14, .int .i64 (bs.length : Int)), (13, .slice A bs.length c), (12, .int .i64 (i : Int))] (fun _ => by kernel_rfl) (WLd rfl (QXn (hK24 _ _ ?_))))
 refine WCa 15 (decide ((i : Int) < (bs.length : Int))) rfl (fun t25b => ?_) (fun t25b => ?_)
 ·
  have t25 : (i : Int) < (bs.length : Int) := by have q_ := of_decide_eq_true t25b; omega
  refine WCt rfl ?_
  refine WC.skip ?_
  refine QXn (hK22 _ _ ?_)
  refine WCs (fun K26 hK27 => ?_)
  refine WC.block ?_
  refine WCs (fun K28 hK29 => ?_)
  refine WCg (WLr 2 [(19, .int .i64 (i : Int)), (18, .slice A bs.length c)] (fun _ => by kernel_rfl) ?_)
  obtain ⟨e30, he31⟩ := get_some (xs := bs) (i := i) (by omega)
  obtain ⟨b32, o34, hA33, hc35⟩ := hr.at_ _ _ he31
  refine WLi A bs.length c 20 .i64 (i : Int) b32 o34 i 2 (by kernel_rfl) hA33 (by omega) (by omega) (o34 + i * 2) (by first | (simp; done) | omega) ?_
  refine WLr 1 [(21, .pointer (some ⟨b32, o34 + i * 2, none⟩))] (fun _ => by kernel_rfl) ?_
  refine WL.load 3 (.pointer (some ⟨b32, o34 + i * 2, none⟩)) (.int .i64 e30.1) 22 (by kernel_rfl) (run_load1 rfl (by simpa [Nat.add_assoc] using fr0_m18.cell (hc35 0 _ rfl) (by simp))) ?_
  refine WLr 2 [(24, .bool (decide (e30.1 > x))), (23, .int .i64 x)] (fun _ => by kernel_rfl) (WLd rfl (QXn (hK29 _ _ ?_)))
  refine WCa 24 (decide (e30.1 > x)) rfl (fun t36b => ?_) (fun t36b => ?_)
  ·
   have t36 : x < e30.1 := by have q_ := of_decide_eq_true t36b; omega
   refine WCt rfl ?_
   refine WCg (WLr 2 [(26, .int .i64 (i : Int)), (25, .slice A bs.length c)] (fun _ => by kernel_rfl) ?_)
   refine WLi A bs.length c 27 .i64 (i : Int) b32 o34 i 2 (by kernel_rfl) hA33 (by omega) (by omega) (o34 + i * 2) (by first | (simp; done) | omega) ?_
   refine WLr 1 [(28, .pointer (some ⟨b32, o34 + i * 2, none⟩))] (fun _ => by kernel_rfl) ?_
   refine WL.load 3 (.pointer (some ⟨b32, o34 + i * 2, none⟩)) (.int .i64 e30.1) 29 (by kernel_rfl) (run_load1 rfl (by simpa [Nat.add_assoc] using fr0_m18.cell (hc35 0 _ rfl) (by simp))) ?_
   refine WLr 1 [(5, .int .i64 e30.1)] (fun _ => by kernel_rfl) ?_
   refine WLd rfl ?_
   refine QXb ?_
   refine QXn (hK27 _ _ ?_)
   refine WCg (WLr 2 [(17, .int .i64 (IntKind.i64.wrap ((i : Int) + 1))), (16, .int .i64 (i : Int))] (fun _ => by kernel_rfl) ?_)
   refine WLt (show (.int .i64 (IntKind.i64.wrap ((i : Int) + 1)) : Value) = .int .i64 ((i : Int) + 1) from by rw [wrap_in_i64 ((i : Int) + 1) (by omega) (by omega)]) ?_
   refine WLr 1 [(6, .int .i64 ((i : Int) + 1))] (fun _ => by kernel_rfl) ?_
   refine WLd rfl ?_
   refine QXn ?_
   have hC41 := hC20.pick [0, 1] [] rfl rfl
   refine fun a_ ha_ => hK16 _ _ _ ?_ ⟨i + 1, e30.1, rfl, rfl, hC41, fr0_m18, by omega, (max_stepL he31 hx).1 (by omega)⟩ a_ (ha_.weaken (sub_of ⟨rfl, rfl, rfl, rfl, rfl, trivial⟩))
   omega
  ·
   have t36 : e30.1 ≤ x := by have q_ := of_decide_eq_false t36b; omega
   refine WCf rfl (WC.skip ?_)
   refine QXb ?_
   refine QXn (hK27 _ _ ?_)
   refine WCg (WLr 2 [(17, .int .i64 (IntKind.i64.wrap ((i : Int) + 1))), (16, .int .i64 (i : Int))] (fun _ => by kernel_rfl) ?_)
   refine WLt (show (.int .i64 (IntKind.i64.wrap ((i : Int) + 1)) : Value) = .int .i64 ((i : Int) + 1) from by rw [wrap_in_i64 ((i : Int) + 1) (by omega) (by omega)]) ?_
   refine WLr 1 [(6, .int .i64 ((i : Int) + 1))] (fun _ => by kernel_rfl) ?_
   refine WLd rfl ?_
   refine QXn ?_
   have hC42 := hC20.pick [0, 1] [] rfl rfl
   refine fun a_ ha_ => hK16 _ _ _ ?_ ⟨i + 1, x, rfl, rfl, hC42, fr0_m18, by omega, (max_stepL he31 hx).2 (by omega)⟩ a_ (ha_.weaken (sub_of ⟨rfl, rfl, rfl, rfl, rfl, trivial⟩))
   omega
 ·
  have t25 : (bs.length : Int) ≤ (i : Int) := by have q_ := of_decide_eq_false t25b; omega
  refine WCf rfl ?_
  refine WC.exit ?_
  refine QXe ?_
  refine QXe ?_
  refine QX.block_hit ?_
  refine QXn (hK12 _ _ ?_)
  refine WCs (fun K43 hK44 => ?_)
  refine WCs (fun K45 hK46 => ?_)
  refine WCg (WLr 2 [(31, .bool (decide (x ≥ 1099511627776))), (30, .int .i64 x)] (fun _ => by kernel_rfl) (WLd rfl (QXn (hK46 _ _ ?_))))
  refine WCa 31 (decide (x ≥ 1099511627776)) rfl (fun t47b => ?_) (fun t47b => ?_)
  ·
   have t47 : (1099511627776 : Int) ≤ x := by have q_ := of_decide_eq_true t47b; omega
   refine WCt rfl ?_
   refine WCg (WLr 1 [(5, .int .i64 1099511627775)] (fun _ => by kernel_rfl) (WLd rfl (QXn (hK44 _ _ ?_))))
   refine WCs (fun K48 hK49 => ?_)
   refine WCg (WLr 2 [(33, .int .i64 (IntKind.i64.wrap (1099511627775 + 1))), (32, .int .i64 1099511627775)] (fun _ => by kernel_rfl) ?_)
   refine WLt (show (.int .i64 (IntKind.i64.wrap (1099511627775 + 1)) : Value) = .int .i64 (1099511627775 + 1) from by rw [wrap_in_i64 (1099511627775 + 1) (by omega) (by omega)]) ?_
   refine WLr 3 [(36, .pointer (some ⟨p, 0, none⟩)), (35, .pointer (some ⟨p, 0, none⟩)), (34, .pointer (some ⟨p, 0, none⟩))] (fun _ => by kernel_rfl) ?_
   refine WL.load 3 (.pointer (some ⟨p, 0, none⟩)) (.int .i64 V.node) 37 (by kernel_rfl) (run_ld (hC20.get 0 rfl) rfl) ?_
   refine WLr 1 [(38, .agg #[.int .i64 (1099511627775 + 1), .int .i64 V.node])] (fun _ => by kernel_rfl) ?_
   refine WLs (c' := #[.int .i64 (1099511627775 + 1), .int .i64 V.node]) hC20 1 50 g3 0 (.agg #[.int .i64 (1099511627775 + 1), .int .i64 V.node]) (by kernel_rfl) rfl (by kernel_rfl) (fun w50 hF52 hC53 => ?_)
   refine WLd rfl (QXn (hK49 _ _ ?_))
   refine WC.ret ?_
   refine (hret' _ _ (.agg #[.int .i64 (1099511627775 + 1), .int .i64 V.node]) (fun a ha => ?_) ?_).1
   ·
    exact res_run ha ((ResR.cell rfl (run_ld (hC53.get 1 rfl) rfl) ResR.nil)) rfl
   clear hN hret hret' hK49 hK46 hK44 hK24 hK22 hK14 hK12 hK10 hK2
   have z_ := claim_eqR V bs (by omega) hx h0
   rw [if_pos (by omega)] at z_
   have hv_ : (1099511627775 + 1 : Int) = claimN V (bs.map (·.1)) := by first | exact z_ | (rw [← z_]; done) | (rw [← z_]; rfl)
   exact ⟨by first | (rw [← hv_]; done) | (rw [← hv_]; rfl) | (rw [← hv_]; simp), (hC53.fr.shrink (by intro x_ hx_; simp at hx_; subst hx_; exact (hC53.get 0 rfl).trans hp.symm))⟩
  ·
   have t47 : x < 1099511627776 := by have q_ := of_decide_eq_false t47b; omega
   refine WCf rfl (WC.skip (QXn (hK44 _ _ ?_)))
   refine WCs (fun K54 hK55 => ?_)
   refine WCg (WLr 2 [(33, .int .i64 (IntKind.i64.wrap (x + 1))), (32, .int .i64 x)] (fun _ => by kernel_rfl) ?_)
   refine WLt (show (.int .i64 (IntKind.i64.wrap (x + 1)) : Value) = .int .i64 (x + 1) from by rw [wrap_in_i64 (x + 1) (by omega) (by omega)]) ?_
   refine WLr 3 [(36, .pointer (some ⟨p, 0, none⟩)), (35, .pointer (some ⟨p, 0, none⟩)), (34, .pointer (some ⟨p, 0, none⟩))] (fun _ => by kernel_rfl) ?_
   refine WL.load 3 (.pointer (some ⟨p, 0, none⟩)) (.int .i64 V.node) 37 (by kernel_rfl) (run_ld (hC20.get 0 rfl) rfl) ?_
   refine WLr 1 [(38, .agg #[.int .i64 (x + 1), .int .i64 V.node])] (fun _ => by kernel_rfl) ?_
   refine WLs (c' := #[.int .i64 (x + 1), .int .i64 V.node]) hC20 1 50 g3 0 (.agg #[.int .i64 (x + 1), .int .i64 V.node]) (by kernel_rfl) rfl (by kernel_rfl) (fun w56 hF58 hC59 => ?_)
   refine WLd rfl (QXn (hK55 _ _ ?_))
   refine WC.ret ?_
   refine (hret' _ _ (.agg #[.int .i64 (x + 1), .int .i64 V.node]) (fun a ha => ?_) ?_).1
   ·
    exact res_run ha ((ResR.cell rfl (run_ld (hC59.get 1 rfl) rfl) ResR.nil)) rfl
   clear hN hret hret' hK55 hK46 hK44 hK24 hK22 hK14 hK12 hK10 hK2
   have z_ := claim_eqR V bs (by omega) hx h0
   rw [if_neg (by omega)] at z_
   have hv_ : (x + 1 : Int) = claimN V (bs.map (·.1)) := by first | exact z_ | (rw [← z_]; done) | (rw [← z_]; rfl)
   exact ⟨by first | (rw [← hv_]; done) | (rw [← hv_]; rfl) | (rw [← hv_]; simp), (hC59.fr.shrink (by intro x_ hx_; simp at hx_; subst hx_; exact (hC59.get 0 rfl).trans hp.symm))⟩

end Go.Proofs.Ytjacpjdikhlcoaa
