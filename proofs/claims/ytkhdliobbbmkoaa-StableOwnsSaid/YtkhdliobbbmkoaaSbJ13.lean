/- Contracts of functions of the program, each proved by a walk through its code; conditions stand in the statements. -/
import Derived.Test.YtkhdliobbbmkoaaSbI13
namespace Go.Proofs.Ytkhdliobbbmkoaa
set_option linter.unusedSimpArgs false
set_option linter.unusedVariables false
set_option linter.unusedSectionVars false
open Go Go.RowKit Go.Tw
set_option linter.unusedVariables false
set_option maxRecDepth 20000
theorem Over_ct (A : Option Addr) (n c : Nat) (xs : List Int) (w : World) (hown : w.ownsRow 0 5 1 (.slice A n c) n (xs.flatMap (Go.Tw.encI .u8))) (hnl : n ≤ 9223372036854775807) : Calls Try.prog 14 #[.slice A n c] w fun e w' => ∃ ys : List Int, e = .returned (.tuple #[]) ∧ Fr w w' (blk (.slice A n c)) ∧ w'.ownsRow 0 5 1 (.slice A n c) n (ys.flatMap (Go.Tw.encI .u8)) ∧ ys.length = xs.length := by
 refine enterD (n := 15) Try.func14 rfl rfl (Nat.le_of_ble_eq_true rfl) ?_
 intro Q0 hN hret hret'
 have hnx0_ := own_count (Go.Tw.encI_len _) (by decide) hown
 have hC := Cx.start1 w (own_lt hown)
 refine WCs (fun K1 hK2 => ?_)
 refine WCg (WLr 3 [(5, .int .i64 0), (4, .int .i64 (n : Int)), (3, .slice A n c)] (fun _ => by kernel_rfl) (WLd rfl (QXn (hK2 _ _ ?_))))
 refine WC.block ?_
 refine WC.loop (fun m_ E_ w_ => ∃ (i : Nat) (ys : List Int), m_ = xs.length - i ∧ E_ = [(0, .slice A n c), (3, .slice A n c), (4, .int .i64 (n : Int)), (5, .int .i64 (i : Int))] ∧ Cx w (blk (.slice A n c)) w_ [] [blk (.slice A n c)] ∧ World.ownsRow w_ 0 5 1 (.slice A n c) n (ys.flatMap (Go.Tw.encI .u8)) ∧ (i ≤ n ∧ ys.length = xs.length)) ⟨_, _, ⟨0, xs, rfl, rfl, hC, hown, Nat.zero_le _, rfl⟩, sub_of ⟨rfl, rfl, rfl, rfl, trivial⟩⟩ (fun m6 E_ w7 K3 hK4 hI5 => ?_)
 obtain ⟨i, ys, rfl, rfl, hC8, hrow, hi, hyl⟩ := hI5
 have hnx_ := own_count (Go.Tw.encI_len _) (by decide) hrow
 refine WCs (fun K9 hK10 => ?_)
 refine WCg (WLr 1 [(6, .bool (decide ((i : Int) < (n : Int))))] (fun _ => by kernel_rfl) (WLd rfl (QXn (hK10 _ _ ?_))))
 refine WCs (fun K11 hK12 => ?_)
 refine WCa 6 (decide ((i : Int) < (n : Int))) rfl (fun t13b => ?_) (fun t13b => ?_)
 ·
  have t13 : (i : Int) < (n : Int) := by have q_ := of_decide_eq_true t13b; omega
  refine WCt rfl ?_
  refine WC.skip ?_
  refine QXn (hK12 _ _ ?_)
  refine WCs (fun K14 hK15 => ?_)
  refine WC.block ?_
  refine WCs (fun K16 hK17 => ?_)
  refine WCg (WLr 2 [(2, .int .i64 (i : Int)), (7, .int .i64 (i : Int))] (fun _ => by kernel_rfl) (WLd rfl (QXn (hK17 _ _ ?_))))
  refine WCg (WLr 2 [(9, .int .i64 (i : Int)), (8, .slice A n c)] (fun _ => by kernel_rfl) ?_)
  have hn22 := own_count (Go.Tw.encI_len _) (by decide) hrow
  obtain ⟨e18, he19⟩ := get_some (xs := ys) (i := i) (by omega)
  obtain ⟨b20, hA21⟩ := own_addr (by decide) (Go.Tw.encI_len _) hrow he19
  refine WLi A n c 10 .i64 (i : Int) b20 0 i 1 (by kernel_rfl) hA21 (by omega) (by omega) i (by first | (simp; done) | omega) ?_
  refine WL.load 5 (.pointer (some ⟨b20, i, none⟩)) (.int .u8 e18) 11 (by kernel_rfl) (run_load1 rfl (by simpa [Nat.add_assoc] using Rd.cell (own_rd hrow (Go.Tw.encI_len _) (by decide)) hA21 he19 0 _ rfl)) ?_
  refine WLr 1 [(12, .int .u8 (Go.bits .xor .u8 e18 255))] (fun _ => by kernel_rfl) ?_
  have hn27 := own_count (Go.Tw.encI_len _) (by decide) hrow
  obtain ⟨e23, he24⟩ := get_some (xs := ys) (i := i) (by omega)
  obtain ⟨b25, hA26⟩ := own_addr (by decide) (Go.Tw.encI_len _) hrow he24
  refine WLi A n c 13 .i64 (i : Int) b25 0 i 1 (by kernel_rfl) hA26 (by omega) (by omega) i (by first | (simp; done) | omega) ?_
  obtain ⟨w28, hr29, hF30, ho32, hC31⟩ := stoE_run Try.prog (Go.Tw.encI_len _) hC8 0 hA26 rfl hrow i 0 (x := e23) he24 (Go.bits .xor .u8 e18 255) [.int .u8 (Go.bits .xor .u8 e18 255)] rfl 5 (.int .u8 (Go.bits .xor .u8 e18 255)) (i) rfl rfl rfl (by first | rfl | simp [Nat.add_assoc])
  refine WL.semU (Instr.storeAt 5 (.pointer (some ⟨b25, i, none⟩)) (.int .u8 (Go.bits .xor .u8 e18 255))) (by kernel_rfl) hr29 ?_
  refine WLd rfl ?_
  refine QXb ?_
  refine QXn (hK15 _ _ ?_)
  refine WCg (WLr 1 [(14, .int .i64 (IntKind.i64.wrap ((i : Int) + 1)))] (fun _ => by kernel_rfl) ?_)
  refine WLt (show (.int .i64 (IntKind.i64.wrap ((i : Int) + 1)) : Value) = .int .i64 ((i : Int) + 1) from by rw [wrap_in_i64 ((i : Int) + 1) (by omega) (by omega)]) ?_
  refine WLr 1 [(5, .int .i64 ((i : Int) + 1))] (fun _ => by kernel_rfl) ?_
  refine WLd rfl ?_
  refine QXn ?_
  have hC33 := hC31.pick [] [0] rfl rfl
  refine fun a_ ha_ => hK4 _ _ _ ?_ ⟨i + 1, ys.set i (Go.bits .xor .u8 e18 255), rfl, rfl, hC33, ho32, by omega, by simpa using hyl⟩ a_ (ha_.weaken (sub_of ⟨rfl, rfl, rfl, rfl, trivial⟩))
  omega
 ·
  have t13 : (n : Int) ≤ (i : Int) := by have q_ := of_decide_eq_false t13b; omega
  refine WCf rfl ?_
  refine WC.exit ?_
  refine QXe ?_
  refine QXe ?_
  refine QX.block_hit ?_
  refine (hret _ _ _ rfl ?_).2
  exact ⟨_, rfl, hC8.fr, hrow, by simpa using hyl⟩

end Go.Proofs.Ytkhdliobbbmkoaa
