/- Contracts of functions of the program, each proved by a walk through its code; conditions stand in the statements. -/
import Derived.Test.YtjacpjdikhlcoaaVtV14
namespace Go.Proofs.Ytjacpjdikhlcoaa
set_option linter.unusedSimpArgs false
set_option linter.unusedVariables false
set_option linter.unusedSectionVars false
open Go Go.RowKit Go.Tw
set_option linter.unusedVariables false
set_option maxRecDepth 20000
theorem RGoodB_ct (n d : Int) (w : World) : Calls Try.prog 67 #[.agg #[.int .i64 n, .int .i64 d]] w fun e w' => e = .returned (.bool (goodBal n d)) ∧ Fr w w' [] := by
 refine enterD (n := 16) Try.func67 rfl rfl (Nat.le_of_ble_eq_true rfl) ?_
 intro Q0 hN hret hret'
 have hC := Cx.start w
 refine WCs (fun K1 hK2 => ?_)
 refine WCg ?_
 refine WL.newM hC (fun b => .pointer (some ⟨b, 0, none⟩)) (.cells #[.int .i64 n, .int .i64 d] 50) 1 (fun _ => by kernel_rfl) (fun g3 w4 hb7 hF5 hC6 => ?_)
 refine WLr 1 [(2, .bool false)] (fun _ => by kernel_rfl) (WLd rfl (QXn (hK2 _ _ ?_)))
 refine WCs (fun K8 hK9 => ?_)
 refine WCg (WLr 1 [(3, .pointer (some ⟨g3, 0, none⟩))] (fun _ => by kernel_rfl) ?_)
 refine WL.load 3 (.pointer (some ⟨g3, 0, none⟩)) (.int .i64 n) 4 (by kernel_rfl) (run_ld (hC6.get 0 rfl) rfl) ?_
 refine WLr 2 [(6, .bool (decide (n ≥ 1))), (5, .bool (decide (n ≥ 1)))] (fun _ => by kernel_rfl) ?_
 refine WLa 6 (decide (n ≥ 1)) rfl (fun t10b => ?_) (fun t10b => ?_)
 ·
  have t10 : (1 : Int) ≤ n := by have q_ := of_decide_eq_true t10b; omega
  refine WLr 1 [(7, .pointer (some ⟨g3, 0, none⟩))] (fun _ => by kernel_rfl) ?_
  refine WL.load 3 (.pointer (some ⟨g3, 0, none⟩)) (.int .i64 n) 8 (by kernel_rfl) (run_ld (hC6.get 0 rfl) rfl) ?_
  refine WLr 3 [(11, .bool (decide (n ≤ 1099511627776))), (10, .bool (decide (n ≤ 1099511627776))), (9, .bool (decide (n ≤ 1099511627776)))] (fun _ => by kernel_rfl) ?_
  refine WLa 11 (decide (n ≤ 1099511627776)) rfl (fun t11b => ?_) (fun t11b => ?_)
  ·
   have t11 : n ≤ 1099511627776 := by have q_ := of_decide_eq_true t11b; omega
   refine WLr 1 [(12, .pointer (some ⟨g3, 1, none⟩))] (fun _ => by kernel_rfl) ?_
   refine WL.load 3 (.pointer (some ⟨g3, 1, none⟩)) (.int .i64 d) 13 (by kernel_rfl) (run_ld (hC6.get 0 rfl) rfl) ?_
   refine WLc rfl rfl rfl rfl rfl (by kernel_rfl) (RMan_ct d w4) ?_
   rintro _ w13 ⟨rfl, hF12⟩
   refine ⟨_, rfl, ?_⟩
   have hC14 := hC6.call hF12
   refine WLr 2 [(2, .bool (mgrB d)), (15, .bool (mgrB d))] (fun _ => by kernel_rfl) (WLd rfl (QXn (hK9 _ _ ?_)))
   refine WC.ret ?_
   refine (hret _ _ _ rfl ?_).1
   clear hN hret hret' hK9 hK2
   have hg_ : ((mgrB d) : Bool) = goodBal n d := by unfold goodBal; first | rfl | (rw [decide_eq_true (by omega)]; rfl) | (rw [decide_eq_false (by omega)]; rfl)
   exact ⟨congrArg (fun b_ => Ending.returned (Value.bool b_)) hg_, hC14.fr⟩
  ·
   have t11 : (1099511627776 : Int) < n := by have q_ := of_decide_eq_false t11b; omega
   refine WLr 5 [(2, .bool false), (15, .bool false), (14, undef), (13, undef), (12, undef)] (fun _ => by kernel_rfl) (WLd rfl (QXn (hK9 _ _ ?_)))
   refine WC.ret ?_
   refine (hret _ _ _ rfl ?_).1
   clear hN hret hret' hK9 hK2
   have hg_ : (false : Bool) = goodBal n d := by unfold goodBal; first | rfl | (rw [decide_eq_true (by omega)]; rfl) | (rw [decide_eq_false (by omega)]; rfl)
   exact ⟨congrArg (fun b_ => Ending.returned (Value.bool b_)) hg_, hC6.fr⟩
 ·
  have t10 : n < 1 := by have q_ := of_decide_eq_false t10b; omega
  refine WLr 10 [(2, .bool false), (15, .bool false), (14, undef), (13, undef), (12, undef), (11, .bool false), (10, .bool false), (9, undef), (8, undef), (7, undef)] (fun _ => by kernel_rfl) (WLd rfl (QXn (hK9 _ _ ?_)))
  refine WC.ret ?_
  refine (hret _ _ _ rfl ?_).1
  clear hN hret hret' hK9 hK2
  have hg_ : (false : Bool) = goodBal n d := by unfold goodBal; first | rfl | (rw [decide_eq_true (by omega)]; rfl) | (rw [decide_eq_false (by omega)]; rfl)
  exact ⟨congrArg (fun b_ => Ending.returned (Value.bool b_)) hg_, hC6.fr⟩

end Go.Proofs.Ytjacpjdikhlcoaa
