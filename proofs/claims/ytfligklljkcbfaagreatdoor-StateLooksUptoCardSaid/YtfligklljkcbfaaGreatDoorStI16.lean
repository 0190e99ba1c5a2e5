/- Contracts of functions of the program, each proved by a walk through its code; conditions stand in the statements. -/
import Derived.Test.YtfligklljkcbfaaGreatDoorStH16
import Derived.Test.YtfligklljkcbfaaGreatDoorTwTz
namespace Go.Proofs.YtfligklljkcbfaaGreatDoor
set_option linter.unusedSimpArgs false
set_option linter.unusedVariables false
set_option linter.unusedSectionVars false
open Go Go.RowKit Go.Tw
set_option linter.unusedVariables false
set_option maxRecDepth 20000
theorem Tz_ct (x : Int) (w : World) (h0 : 0 ≤ x) (h1 : x ≤ 18446744073709551615) (hg : Rd w 1 (encI .u8) (some ⟨0, 0, none⟩) dbTab) : Calls Tryz.prog 154 #[.int .u64 x] w fun e w' => e = .returned (I6 (tz (BitVec.ofInt 64 x) : Int)) ∧ Fr w w' [] := by
 refine enterD (n := 14) Tryz.func154 rfl rfl (Nat.le_of_ble_eq_true rfl) ?_
 intro Q0 hN hret hret'
 have hC := Cx.start w
 refine WCs (fun K1 hK2 => WCg (WLq 1 [(2, I6 0)] (WLd rfl (QXn (hK2 _ _ (WCs (fun K3 hK4 => WCs (fun K5 hK6 => WCg (WLz 2 [(4, .bool (x == 0))] (WLd rfl (QXn (hK6 _ _ ?_))))))))))))
 refine WCa 4 (x == 0) rfl (fun t7b => ?_) (fun t7b => ?_)
 ·
  have t7 : x = 0 := by simpa using t7b
  refine WCt rfl (WCs (fun K8 hK9 => WCg (WLq 1 [(2, I6 64)] (WLd rfl (QXn (hK9 _ _ (WC.ret (QXr ?_))))))))
  refine (hret _ _ _ rfl ?_).1
  clear hN hret hret' hK9 hK6 hK4 hK2
  have hx_ : x = 0 := by assumption
  subst hx_
  exact ⟨by rw [show BitVec.ofInt 64 0 = 0 from rfl, tz_zero]; rfl, hC.fr⟩
 ·
  have t7 : ¬ (x = 0) := by simpa using t7b
  refine WCf rfl (WC.skip (QXn (hK4 _ _ (WCs (fun af aa => WCg (WLz 6 [(10, .int .u64 ((IntKind.u64.wrap ((Go.bits .and .u64 x (IntKind.u64.wrap (0 - x))) * 285870213051353865)).fdiv (2 ^ 58)))] (WLt (show (.int .u64 ((IntKind.u64.wrap ((Go.bits .and .u64 x (IntKind.u64.wrap (0 - x))) * 285870213051353865)).fdiv (2 ^ 58)) : Value) = .int .u64 ((IntKind.u64.wrap ((Go.bits .and .u64 x (IntKind.u64.wrap (0 - x))) * 285870213051353865)) / 288230376151711744) from by rw [Int.fdiv_eq_ediv_of_nonneg _ (by decide), show (2 : Int) ^ 58 = 288230376151711744 from by decide]) ?_)))))))
  obtain ⟨ac, ad⟩ : ∃ n_ : Nat, n_ = ((IntKind.u64.wrap ((Go.bits .and .u64 x (IntKind.u64.wrap (0 - x))) * 285870213051353865)) / 288230376151711744).toNat := ⟨_, rfl⟩
  obtain ⟨ae, ab⟩ := get_some (xs := dbTab) (i := ac) (by (try simp only [dbTab, List.length]); (try simp only [IntKind.wrap_u64] at *); omega)
  refine WL.indexP 202 64 5 1 0 0 ac .u64 ((IntKind.u64.wrap ((Go.bits .and .u64 x (IntKind.u64.wrap (0 - x))) * 285870213051353865)) / 288230376151711744) 11 (by kernel_rfl) (by kernel_rfl) (by (try simp only [dbTab, List.length]); (try simp only [IntKind.wrap_u64] at *); omega) (by (try simp only [dbTab, List.length]); (try simp only [IntKind.wrap_u64] at *); omega) ac (by first | (simp; done) | omega) (WLo 5 (P0 0 ac) (.int .u8 ae) 12 (run_load1 rfl (by simpa [Nat.add_assoc] using Rd.cell (Rd.fr hg hC.fr) rfl ab 0 _ rfl)) (WLz 2 [(2, I6 (IntKind.i64.wrap (ae)))] (WLd rfl (QXn (aa _ _ (WC.ret ?_))))))
  refine (hret _ _ _ rfl ?_).1
  clear hN hret hret' aa hK6 hK4 hK2
  have e_ := ab
  rw [ad, tz_int x h0 h1 (by assumption)] at e_
  simp only [Option.some.injEq] at e_
  subst e_
  have hle_ := tz_le (BitVec.ofInt 64 x)
  exact ⟨by simp only [shut]; congr 2; rw [wrap_in_i64 _ (by omega) (by omega)], hC.fr⟩

end Go.Proofs.YtfligklljkcbfaaGreatDoor
