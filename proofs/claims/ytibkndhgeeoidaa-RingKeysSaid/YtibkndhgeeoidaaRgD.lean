/- Contracts of functions of the program, each proved by a walk through its code; conditions stand in the statements. -/
import Derived.Test.YtibkndhgeeoidaaRgB
import Derived.Test.YtibkndhgeeoidaaRgM
namespace Go.Proofs.Ytibkndhgeeoidaa
set_option linter.unusedSimpArgs false
set_option linter.unusedVariables false
set_option linter.unusedSectionVars false
open Go Go.RowKit Go.Tw
set_option linter.unusedVariables false
set_option maxRecDepth 20000
theorem Values_ct (A : Option Addr) (n c : Nat) (w : World) : Calls Try.prog 31 #[.slice A n c] w fun e w' => ∃ g, e = .returned (.func (.func 53) #[] #[.pointer (some ⟨g, 0, none⟩)]) ∧ Fr w w' [] ∧ w.heap.size ≤ g ∧ w'.heap[g]? = some (.cells #[.slice A n c] 31 (0, 0)) := by
 refine enterD (n := 4) Try.func31 rfl rfl (Nat.le_of_ble_eq_true rfl) ?_
 intro Q0 hN hret hret'
 have hC := Cx.start w
 refine WCs (fun K1 hK2 => ?_)
 refine WCg ?_
 refine WL.newM hC (fun b => .pointer (some ⟨b, 0, none⟩)) (.cells #[.slice A n c] 31) 1 (fun _ => by kernel_rfl) (fun g3 w4 hb7 hF5 hC6 => ?_)
 refine WLq 1 [(2, .nilFunc)] (WLd rfl (QXn (hK2 _ _ ?_)))
 refine WCs (fun K8 hK9 => ?_)
 refine WCg (WLq 2 [(2, .func (.func 53) #[] #[.pointer (some ⟨g3, 0, none⟩)]), (3, .func (.func 53) #[] #[.pointer (some ⟨g3, 0, none⟩)])] (WLd rfl (QXn (hK9 _ _ ?_))))
 refine WC.ret ?_
 refine (hret _ _ _ rfl ?_).1
 exact ⟨_, rfl, hC6.fr, by omega, hC6.get 0 rfl⟩

theorem Collect_ct (A : Option Addr) (c : Nat) (zs : List Int) (g : Nat) (w : World) (hg : w.heap[g]? = some (.cells #[.slice A zs.length c] 31 (0, 0))) (hr : Rd w 1 (Go.Tw.encI .i64) A zs) (hl : zs.length ≤ 1099511627776) : Calls Try.prog 51 #[.func (.func 53) #[] #[.pointer (some ⟨g, 0, none⟩)]] w fun e w' => ∃ v, e = .returned v ∧ Fr w w' [] ∧ w'.ownsRow w.heap.size 3 1 v zs.length (zs.flatMap (Go.Tw.encI .i64)) := by
 refine enterD (n := 5) Try.func51 rfl rfl (Nat.le_of_ble_eq_true rfl) ?_
 intro Q0 hN hret hret'
 have hC := Cx.start w
 refine WCs (fun K1 hK2 => ?_)
 refine WCg (WLq 1 [(2, .slice none 0 0)] (WLd rfl (QXn (hK2 _ _ ?_))))
 refine WCs (fun K3 hK4 => ?_)
 refine WCg (WLq 1 [(3, .func (.func 53) #[] #[.pointer (some ⟨g, 0, none⟩)])] ?_)
 refine WLc rfl rfl rfl rfl rfl (by kernel_rfl) (append_ct A zs.length c zs g w (hC.fr.has hg (by simp)) rfl (Rd.fr hr hC.fr) hl) ?_
 rintro _ w7 ⟨v_, rfl, hF6, ho5⟩
 have hC8 := hC.callN hF6 (own_ge ho5) (own_lt ho5)
 obtain ⟨A9, ac, rfl, ab⟩ := own_form ho5
 have aa := own_base (b' := 0) ho5 (fun _ _ => Nat.zero_le _)
 refine ⟨_, rfl, ?_⟩
 refine WLq 1 [(2, .slice A9 zs.length ac)] (WLd rfl (QXn (hK4 _ _ ?_)))
 refine WC.ret ?_
 refine (hret _ _ _ rfl ?_).1
 exact ⟨_, rfl, hC8.fr, own_base aa (hC8.geF 0 rfl)⟩

theorem SortI_n (A : Option Addr) (n c : Nat) (D : List Int) (w : World) (hn : D.length = n) (ho : w.ownsRow 0 3 1 (.slice A n c) n (D.flatMap (Go.Tw.encI .i64))) (hl : n < 4611686018427387904) : Calls Try.prog 52 #[.slice A n c] w fun e w' => e = .returned (.tuple #[]) ∧ Fr w w' (blk (.slice A n c)) ∧ w'.ownsRow 0 3 1 (.slice A n c) n ((sortI D).flatMap (Go.Tw.encI .i64)) := by subst hn; exact SortI_ct A c D w ho hl
theorem Sorted_ct (A : Option Addr) (c : Nat) (zs : List Int) (g : Nat) (w : World) (hg : w.heap[g]? = some (.cells #[.slice A zs.length c] 31 (0, 0))) (hr : Rd w 1 (Go.Tw.encI .i64) A zs) (hl : zs.length ≤ 1099511627776) : Calls Try.prog 30 #[.func (.func 53) #[] #[.pointer (some ⟨g, 0, none⟩)]] w fun e w' => ∃ v, e = .returned v ∧ Fr w w' [] ∧ w'.ownsRow w.heap.size 3 1 v zs.length ((sortI zs).flatMap (Go.Tw.encI .i64)) := by
 refine enterD (n := 9) Try.func30 rfl rfl (Nat.le_of_ble_eq_true rfl) ?_
 intro Q0 hN hret hret'
 have hC := Cx.start w
 refine WCs (fun K1 hK2 => ?_)
 refine WCg (WLq 1 [(2, .slice none 0 0)] (WLd rfl (QXn (hK2 _ _ ?_))))
 refine WCs (fun K3 hK4 => ?_)
 refine WCg (WLq 1 [(4, .func (.func 53) #[] #[.pointer (some ⟨g, 0, none⟩)])] ?_)
 refine WLc rfl rfl rfl rfl rfl (by kernel_rfl) (Collect_ct A c zs g w (hC.fr.has hg (by simp)) (Rd.fr hr hC.fr) hl) ?_
 rintro _ w7 ⟨v_, rfl, hF6, ho5⟩
 have hC8 := hC.callN hF6 (own_ge ho5) (own_lt ho5)
 obtain ⟨A9, aa, rfl, ah⟩ := own_form ho5
 have ab := own_base (b' := 0) ho5 (fun _ _ => Nat.zero_le _)
 refine ⟨_, rfl, ?_⟩
 refine WLq 1 [(3, .slice A9 zs.length aa)] (WLd rfl (QXn (hK4 _ _ ?_)))
 refine WCs (fun ai ae => ?_)
 refine WCg (WLq 1 [(6, .slice A9 zs.length aa)] ?_)
 refine WLc rfl rfl rfl rfl rfl (by kernel_rfl) (SortI_n A9 zs.length aa zs w7 (own_count (Go.Tw.encI_len _) (by decide) ab) ab (by omega)) ?_
 rintro _ aj ⟨rfl, af, ac⟩
 have ad := hC8.callF 0 rfl af (fun x_ h_ => .inl h_) (own_lt ac)
 refine ⟨_, rfl, ?_⟩
 refine WLd rfl (QXn (ae _ _ ?_))
 refine WCs (fun ak ag => ?_)
 refine WCg (WLq 2 [(2, .slice A9 zs.length aa), (8, .slice A9 zs.length aa)] (WLd rfl (QXn (ag _ _ ?_))))
 refine WC.ret ?_
 refine (hret _ _ _ rfl ?_).1
 exact ⟨_, rfl, ad.fr, own_base ac (ad.geF 0 rfl)⟩

theorem Sorted_n (A : Option Addr) (n c : Nat) (zs : List Int) (g : Nat) (w : World) (hg : w.heap[g]? = some (.cells #[.slice A n c] 31 (0, 0))) (hr : Rd w 1 (Go.Tw.encI .i64) A zs) (hn : zs.length = n) (hl : n ≤ 1099511627776) : Calls Try.prog 30 #[.func (.func 53) #[] #[.pointer (some ⟨g, 0, none⟩)]] w fun e w' => ∃ v, e = .returned v ∧ Fr w w' [] ∧ w'.ownsRow w.heap.size 3 1 v zs.length ((sortI zs).flatMap (Go.Tw.encI .i64)) := by subst hn; exact Sorted_ct A c zs g w hg hr hl
end Go.Proofs.Ytibkndhgeeoidaa
