/- Contracts of functions of the program, each proved by a walk through its code; conditions stand in the statements. -/
import Derived.Test.YtfligklljkcbfaaDoorStD16
namespace Go.Proofs.YtfligklljkcbfaaDoor
set_option linter.unusedSimpArgs false
set_option linter.unusedVariables false
set_option linter.unusedSectionVars false
open Go Go.RowKit Go.Tw
set_option linter.unusedVariables false
set_option maxRecDepth 20000
def headL (ys : List Lease) : Lease := (ys[0]?).getD ⟨0, 0, 0, 0⟩
def hasL (ys : List Lease) : Bool := (ys[0]?).isSome
theorem Of_ct (A : Option Addr) (c : Nat) (xs : List Lease) (dip now : Int) (w : World) (hr : Rd w 4 encL A xs) (hwf : ∀ l ∈ xs, okL l) (hm : xs.length < 2 ^ 40) : Calls Tryd.prog 66 #[.slice A xs.length c, .int .u32 dip, .int .i64 now] w fun e w' => ∃ v, e = .returned v ∧ Fr w w' [] ∧ w'.ownsRow w.heap.size 43 4 v (xs.filter (ofP dip now)).length ((xs.filter (ofP dip now)).flatMap encL) := by
 refine enterD (n := 10) Tryd.func66 rfl rfl (Nat.le_of_ble_eq_true rfl) ?_
 intro Q0 hN hret hret'
 have hC := Cx.start w
 refine WCs (fun K1 hK2 => ?_)
 refine WCg ?_
 refine WL.newM hC (fun b => .pointer (some ⟨b, 0, none⟩)) (.cells #[.int .u32 dip] 41) 4 (fun _ => by kernel_rfl) (fun g3 w4 hb7 hF5 hC6 => ?_)
 refine WL.newM hC6 (fun b => .pointer (some ⟨b, 0, none⟩)) (.cells #[.int .i64 now] 3) 5 (fun _ => by kernel_rfl) (fun g8 w9 hb12 hF10 hC11 => ?_)
 refine WLr 1 [(6, .slice none 0 0)] (fun _ => by kernel_rfl) (WLd rfl (QXn (hK2 _ _ ?_)))
 refine WCs (fun K13 hK14 => ?_)
 refine WCg (WLr 2 [(8, .func (.func 85) #[] #[.pointer (some ⟨g3, 0, none⟩), .pointer (some ⟨g8, 0, none⟩)]), (7, .slice A xs.length c)] (fun _ => by kernel_rfl) ?_)
 refine WLc rfl rfl rfl rfl rfl (by kernel_rfl) (picked_Of A c xs g3 g8 dip now w9 (Rd.fr hr hC11.fr) hwf (by first | omega | simp) (by rw [cell_blk (hC11.get 0 rfl)]; rfl) (by rw [cell_blk (hC11.get 1 rfl)]; rfl)) ?_
 rintro _ w17 ⟨v_, rfl, hF16, ho15⟩
 have hC18 := hC11.callN hF16 (own_ge ho15) (own_lt ho15)
 obtain ⟨A19, c20, rfl, hle21⟩ := own_form ho15
 have ho23 := own_base (b' := 0) ho15 (fun _ _ => Nat.zero_le _)
 refine ⟨_, rfl, ?_⟩
 refine WLr 1 [(6, .slice A19 ((xs.filter (ofP dip now)).length) c20)] (fun _ => by kernel_rfl) (WLd rfl (QXn (hK14 _ _ ?_)))
 refine WC.ret ?_
 refine (hret _ _ _ rfl ?_).1
 exact ⟨_, rfl, hC18.fr, own_base ho23 (hC18.geF 0 rfl)⟩

theorem Prune_ct (A : Option Addr) (c : Nat) (xs : List Lease) (now : Int) (w : World) (hr : Rd w 4 encL A xs) (hwf : ∀ l ∈ xs, okL l) (hm : xs.length < 2 ^ 40) : Calls Tryd.prog 65 #[.slice A xs.length c, .int .i64 now] w fun e w' => ∃ v, e = .returned v ∧ Fr w w' [] ∧ w'.ownsRow w.heap.size 43 4 v (xs.filter (pruneP now)).length ((xs.filter (pruneP now)).flatMap encL) := by
 refine enterD (n := 8) Tryd.func65 rfl rfl (Nat.le_of_ble_eq_true rfl) ?_
 intro Q0 hN hret hret'
 have hC := Cx.start w
 refine WCs (fun K1 hK2 => ?_)
 refine WCg ?_
 refine WL.newM hC (fun b => .pointer (some ⟨b, 0, none⟩)) (.cells #[.int .i64 now] 3) 3 (fun _ => by kernel_rfl) (fun g3 w4 hb7 hF5 hC6 => ?_)
 refine WLr 1 [(4, .slice none 0 0)] (fun _ => by kernel_rfl) (WLd rfl (QXn (hK2 _ _ ?_)))
 refine WCs (fun K8 hK9 => ?_)
 refine WCg (WLr 2 [(6, .func (.func 84) #[] #[.pointer (some ⟨g3, 0, none⟩)]), (5, .slice A xs.length c)] (fun _ => by kernel_rfl) ?_)
 refine WLc rfl rfl rfl rfl rfl (by kernel_rfl) (picked_Prune A c xs g3 now w4 (Rd.fr hr hC6.fr) hwf (by first | omega | simp) (by rw [cell_blk (hC6.get 0 rfl)]; rfl)) ?_
 rintro _ w12 ⟨v_, rfl, hF11, ho10⟩
 have hC13 := hC6.callN hF11 (own_ge ho10) (own_lt ho10)
 obtain ⟨A14, c15, rfl, hle16⟩ := own_form ho10
 have ho18 := own_base (b' := 0) ho10 (fun _ _ => Nat.zero_le _)
 refine ⟨_, rfl, ?_⟩
 refine WLr 1 [(4, .slice A14 ((xs.filter (pruneP now)).length) c15)] (fun _ => by kernel_rfl) (WLd rfl (QXn (hK9 _ _ ?_)))
 refine WC.ret ?_
 refine (hret _ _ _ rfl ?_).1
 exact ⟨_, rfl, hC13.fr, own_base ho18 (hC13.geF 0 rfl)⟩

end Go.Proofs.YtfligklljkcbfaaDoor
