/- Contracts of functions of the program, each proved by a walk through its code; conditions stand in the statements. -/
import Derived.Test.YtfligklljkcbfaaGreatDoorStD16
namespace Go.Proofs.YtfligklljkcbfaaGreatDoor
set_option linter.unusedSimpArgs false
set_option linter.unusedVariables false
set_option linter.unusedSectionVars false
open Go Go.RowKit Go.Tw
set_option linter.unusedVariables false
set_option maxRecDepth 20000
def headL (ys : List Lease) : Lease := (ys[0]?).getD ⟨0, 0, 0, 0⟩
def hasL (ys : List Lease) : Bool := (ys[0]?).isSome
theorem Of_ct (A : Option Addr) (c : Nat) (xs : List Lease) (dip now : Int) (w : World) (hr : Rd w 4 encL A xs) (hwf : ∀ l ∈ xs, okL l) (hm : xs.length < 2 ^ 40) : Calls Tryz.prog 84 #[.slice A xs.length c, U4 dip, I6 now] w fun e w' => ∃ v, e = .returned v ∧ Fr w w' [] ∧ w'.ownsRow w.heap.size 50 4 v (xs.filter (ofP dip now)).length ((xs.filter (ofP dip now)).flatMap encL) := by
 refine enterD (n := 10) Tryz.func84 rfl rfl (Nat.le_of_ble_eq_true rfl) ?_
 intro Q0 hN hret hret'
 have hC := Cx.start w
 refine WCs (fun K1 hK2 => WCg (WLb hC (.cells #[U4 dip] 40) 4 (fun g3 w4 hb7 hF5 hC6 => WLb hC6 (.cells #[I6 now] 3) 5 (fun g8 w9 ah ai aa => WLq 1 [(6, .slice none 0 0)] (WLd rfl (QXn (hK2 _ _ (WCs (fun al ad => ?_)))))))))
 refine WCg (WLq 2 [(8, .func (.func 123) #[] #[P0 g3 0, P0 g8 0]), (7, .slice A xs.length c)] (WLk (picked_Of A c xs g3 g8 dip now w9 (Rd.fr hr aa.fr) hwf (by first | omega | simp) (by rw [cell_blk (aa.get 0 rfl)]; rfl) (by rw [cell_blk (aa.get 1 rfl)]; rfl)) ?_))
 rintro _ am ⟨v_, rfl, ae, ab⟩
 have ac := aa.callN ae (own_ge ab) (own_lt ab)
 obtain ⟨aj, ak, rfl, ag⟩ := own_form ab
 have af := own_base (b' := 0) ab (fun _ _ => Nat.zero_le _)
 refine ⟨_, rfl, ?_⟩
 refine WLq 1 [(6, .slice aj ((xs.filter (ofP dip now)).length) ak)] (WLd rfl (QXn (ad _ _ (WC.ret ?_))))
 refine (hret _ _ _ rfl ?_).1
 exact ⟨_, rfl, ac.fr, own_base af (ac.geF 0 rfl)⟩

theorem Prune_ct (A : Option Addr) (c : Nat) (xs : List Lease) (now : Int) (w : World) (hr : Rd w 4 encL A xs) (hwf : ∀ l ∈ xs, okL l) (hm : xs.length < 2 ^ 40) : Calls Tryz.prog 83 #[.slice A xs.length c, I6 now] w fun e w' => ∃ v, e = .returned v ∧ Fr w w' [] ∧ w'.ownsRow w.heap.size 50 4 v (xs.filter (pruneP now)).length ((xs.filter (pruneP now)).flatMap encL) := by
 refine enterD (n := 8) Tryz.func83 rfl rfl (Nat.le_of_ble_eq_true rfl) ?_
 intro Q0 hN hret hret'
 have hC := Cx.start w
 refine WCs (fun K1 hK2 => WCg (WLb hC (.cells #[I6 now] 3) 3 (fun g3 w4 hb7 hF5 hC6 => WLq 1 [(4, .slice none 0 0)] (WLd rfl (QXn (hK2 _ _ (WCs (fun K8 hK9 => WCg (WLq 2 [(6, .func (.func 121) #[] #[P0 g3 0]), (5, .slice A xs.length c)] ?_)))))))))
 refine WLk (picked_Prune A c xs g3 now w4 (Rd.fr hr hC6.fr) hwf (by first | omega | simp) (by rw [cell_blk (hC6.get 0 rfl)]; rfl)) ?_
 rintro _ ah ⟨v_, rfl, ac, aa⟩
 have ab := hC6.callN ac (own_ge aa) (own_lt aa)
 obtain ⟨af, ag, rfl, ae⟩ := own_form aa
 have ad := own_base (b' := 0) aa (fun _ _ => Nat.zero_le _)
 refine ⟨_, rfl, ?_⟩
 refine WLq 1 [(4, .slice af ((xs.filter (pruneP now)).length) ag)] (WLd rfl (QXn (hK9 _ _ (WC.ret ?_))))
 refine (hret _ _ _ rfl ?_).1
 exact ⟨_, rfl, ab.fr, own_base ad (ab.geF 0 rfl)⟩

end Go.Proofs.YtfligklljkcbfaaGreatDoor
