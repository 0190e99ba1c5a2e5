/- Contracts of functions of the program, each proved by a walk through its code; conditions stand in the statements. -/
import Derived.Test.YtfligklljkcbfaaDoorStW16
namespace Go.Proofs.YtfligklljkcbfaaDoor
set_option linter.unusedSimpArgs false
set_option linter.unusedVariables false
set_option linter.unusedSectionVars false
open Go Go.RowKit Go.Tw
set_option linter.unusedVariables false
set_option maxRecDepth 20000
set_option maxHeartbeats 1000000 in
theorem StateSames_ct (ce1 cn1 : Int) (AS1 : Option Addr) (cS1 : Nat) (xs1 : List Svc) (AN1 : Option Addr) (cN1 : Nat) (ns1 : List SnatV) (AK1 : Option Addr) (cK1 : Nat) (ks1 : List Int) (AL1 : Option Addr) (cL1 : Nat) (ls1 : List Lease) (ce2 cn2 : Int) (AS2 : Option Addr) (cS2 : Nat) (xs2 : List Svc) (AN2 : Option Addr) (cN2 : Nat) (ns2 : List SnatV) (AK2 : Option Addr) (cK2 : Nat) (ks2 : List Int) (AL2 : Option Addr) (cL2 : Nat) (ls2 : List Lease) (w : World) (hqS1 : Rd w 4 cellsS AS1 xs1) (hat1 : ∀ s ∈ xs1, svcAt w s) (hqN1 : Rd w 2 cellsN AN1 ns1) (hqK1 : Rd w 1 (Go.Tw.encI .u32) AK1 ks1) (hqL1 : Rd w 4 encL AL1 ls1) (hlS1 : xs1.length ≤ 1099511627776) (hlN1 : ns1.length ≤ 1099511627776) (hlK1 : ks1.length ≤ 1099511627776) (hlL1 : ls1.length ≤ 1099511627776) (hqS2 : Rd w 4 cellsS AS2 xs2) (hat2 : ∀ s ∈ xs2, svcAt w s) (hqN2 : Rd w 2 cellsN AN2 ns2) (hqK2 : Rd w 1 (Go.Tw.encI .u32) AK2 ks2) (hqL2 : Rd w 4 encL AL2 ls2) (hlS2 : xs2.length ≤ 1099511627776) (hlN2 : ns2.length ≤ 1099511627776) (hlK2 : ks2.length ≤ 1099511627776) (hlL2 : ls2.length ≤ 1099511627776) (hg : Rd w 1 (encI .u8) (some ⟨0, 0, none⟩) dbTab) : Calls Tryd.prog 5 #[.agg #[.int .i64 ce1, .int .i64 cn1, .slice AS1 xs1.length cS1, .slice AN1 ns1.length cN1, .slice AK1 ks1.length cK1, .slice AL1 ls1.length cL1], .agg #[.int .i64 ce2, .int .i64 cn2, .slice AS2 xs2.length cS2, .slice AN2 ns2.length cN2, .slice AK2 ks2.length cK2, .slice AL2 ls2.length cL2]] w fun e w' => e = .returned (.bool true) ∧ Fr w w' [] := by
 refine enterD (n := 21) Tryd.func5 rfl rfl (Nat.le_of_ble_eq_true rfl) ?_
 intro Q0 hN hret hret'
 have hC := Cx.start w
 refine WCs (fun K1 hK2 => ?_)
 refine WCg ?_
 refine WL.newM hC (fun b => .pointer (some ⟨b, 0, none⟩)) (.cells #[.int .i64 ce1, .int .i64 cn1, .slice AS1 xs1.length cS1, .slice AN1 ns1.length cN1, .slice AK1 ks1.length cK1, .slice AL1 ls1.length cL1] 31) 2 (fun _ => by kernel_rfl) (fun g3 w4 hb7 hF5 hC6 => ?_)
 refine WL.newM hC6 (fun b => .pointer (some ⟨b, 0, none⟩)) (.cells #[.int .i64 ce2, .int .i64 cn2, .slice AS2 xs2.length cS2, .slice AN2 ns2.length cN2, .slice AK2 ks2.length cK2, .slice AL2 ls2.length cL2] 31) 3 (fun _ => by kernel_rfl) (fun g8 w9 hb12 hF10 hC11 => ?_)
 refine WLr 1 [(4, .bool false)] (fun _ => by kernel_rfl) (WLd rfl (QXn (hK2 _ _ ?_)))
 refine WCs (fun K13 hK14 => ?_)
 refine WC.drawC hC11 [] (by kernel_rfl) (fun w15 hF16 hC17 hS18 => ?_)
 refine WD.call 0 (by kernel_rfl) rfl rfl rfl rfl rfl (by kernel_rfl) (alive_ct w15 (Rd.fr hg hC17.fr)) ?_
 rintro _ w20 ⟨rfl, hF19⟩
 have hS22 := hS18.trans hF19 (by simp)
 refine ⟨_, rfl, hS22, ?_⟩
 have hC21 := hC17.call hF19
 refine WDp (NPt hN) 1 6 (.bool true) (by kernel_rfl) (fun _ => by kernel_rfl) hS22 ?_
 refine WDl (NPt hN) 2 31 (.pointer (some ⟨g3, 0, none⟩)) (.agg #[.int .i64 ce1, .int .i64 cn1, .slice AS1 xs1.length cS1, .slice AN1 ns1.length cN1, .slice AK1 ks1.length cK1, .slice AL1 ls1.length cL1]) 7 (by kernel_rfl) (by kernel_rfl) (fun _ hS_ => run_ld (Fr.has hS_ (hC17.get 0 rfl) (by simp)) rfl) hS22 ?_
 refine WDl (NPt hN) 3 31 (.pointer (some ⟨g8, 0, none⟩)) (.agg #[.int .i64 ce2, .int .i64 cn2, .slice AS2 xs2.length cS2, .slice AN2 ns2.length cN2, .slice AK2 ks2.length cK2, .slice AL2 ls2.length cL2]) 8 (by kernel_rfl) (by kernel_rfl) (fun _ hS_ => run_ld (Fr.has hS_ (hC17.get 1 rfl) (by simp)) rfl) hS22 ?_
 refine WDl (NPt hN) 5 31 (.pointer (some ⟨g3, 0, none⟩)) (.agg #[.int .i64 ce1, .int .i64 cn1, .slice AS1 xs1.length cS1, .slice AN1 ns1.length cN1, .slice AK1 ks1.length cK1, .slice AL1 ls1.length cL1]) 10 (by kernel_rfl) (by kernel_rfl) (fun _ hS_ => run_ld (Fr.has hS_ (hC17.get 0 rfl) (by simp)) rfl) hS22 ?_
 refine WDl (NPt hN) 6 31 (.pointer (some ⟨g8, 0, none⟩)) (.agg #[.int .i64 ce2, .int .i64 cn2, .slice AS2 xs2.length cS2, .slice AN2 ns2.length cN2, .slice AK2 ks2.length cK2, .slice AL2 ls2.length cL2]) 11 (by kernel_rfl) (by kernel_rfl) (fun _ hS_ => run_ld (Fr.has hS_ (hC17.get 1 rfl) (by simp)) rfl) hS22 ?_
 refine WD.call 4 (by kernel_rfl) rfl rfl rfl rfl rfl (by kernel_rfl) (Same_ct ce1 cn1 AS1 cS1 xs1 AN1 cN1 ns1 AK1 cK1 ks1 AL1 cL1 ls1 ce2 cn2 AS2 cS2 xs2 AN2 cN2 ns2 AK2 cK2 ks2 AL2 cL2 ls2 w20 (Rd.fr hqS1 hC21.fr) (fun s_ h_ => (hat1 s_ h_).fr hC21.fr (fun _ _ => by simp)) (Rd.fr hqN1 hC21.fr) (Rd.fr hqK1 hC21.fr) (Rd.fr hqL1 hC21.fr) hlS1 hlN1 hlK1 hlL1 (Rd.fr hqS2 hC21.fr) (fun s_ h_ => (hat2 s_ h_).fr hC21.fr (fun _ _ => by simp)) (Rd.fr hqN2 hC21.fr) (Rd.fr hqK2 hC21.fr) (Rd.fr hqL2 hC21.fr) hlS2 hlN2 hlK2 hlL2) ?_
 rintro _ w24 ⟨rfl, hF23⟩
 have hS26 := hS22.trans hF23 (by simp)
 refine ⟨_, rfl, hS26, ?_⟩
 have hC25 := hC21.call hF23
 refine WD.call 7 (by kernel_rfl) rfl rfl rfl rfl rfl (by kernel_rfl) (RSame_ct ce1 cn1 AS1 cS1 xs1 AN1 cN1 ns1 AK1 cK1 ks1 AL1 cL1 ls1 ce2 cn2 AS2 cS2 xs2 AN2 cN2 ns2 AK2 cK2 ks2 AL2 cL2 ls2 w24 (Rd.fr hqS1 hC25.fr) (fun s_ h_ => (hat1 s_ h_).fr hC25.fr (fun _ _ => by simp)) (Rd.fr hqN1 hC25.fr) (Rd.fr hqK1 hC25.fr) (Rd.fr hqL1 hC25.fr) hlS1 hlN1 hlK1 hlL1 (Rd.fr hqS2 hC25.fr) (fun s_ h_ => (hat2 s_ h_).fr hC25.fr (fun _ _ => by simp)) (Rd.fr hqN2 hC25.fr) (Rd.fr hqK2 hC25.fr) (Rd.fr hqL2 hC25.fr) hlS2 hlN2 hlK2 hlL2) ?_
 rintro _ w28 ⟨rfl, hF27⟩
 have hS30 := hS26.trans hF27 (by simp)
 refine ⟨_, rfl, hS30, ?_⟩
 have hC29 := hC25.call hF27
 refine WDp (NPt hN) 8 13 (.bool ((decide ((⟨ce1, cn1, xs1.map (·.v), ns1, ks1, ls1⟩ : CfgV) = (⟨ce2, cn2, xs2.map (·.v), ns2, ks2, ls2⟩ : CfgV))) == (decide ((⟨ce1, cn1, xs1.map (·.v), ns1, ks1, ls1⟩ : CfgV) = (⟨ce2, cn2, xs2.map (·.v), ns2, ks2, ls2⟩ : CfgV))))) (by kernel_rfl) (fun _ => by kernel_rfl) hS30 ?_
 refine WDp (NPt hN) 9 14 (.bool ((decide ((⟨ce1, cn1, xs1.map (·.v), ns1, ks1, ls1⟩ : CfgV) = (⟨ce2, cn2, xs2.map (·.v), ns2, ks2, ls2⟩ : CfgV))) == (decide ((⟨ce1, cn1, xs1.map (·.v), ns1, ks1, ls1⟩ : CfgV) = (⟨ce2, cn2, xs2.map (·.v), ns2, ks2, ls2⟩ : CfgV))))) (by kernel_rfl) (fun _ => by kernel_rfl) hS30 ?_
 refine WDp (NPt hN) 10 15 (.bool ((decide ((⟨ce1, cn1, xs1.map (·.v), ns1, ks1, ls1⟩ : CfgV) = (⟨ce2, cn2, xs2.map (·.v), ns2, ks2, ls2⟩ : CfgV))) == (decide ((⟨ce1, cn1, xs1.map (·.v), ns1, ks1, ls1⟩ : CfgV) = (⟨ce2, cn2, xs2.map (·.v), ns2, ks2, ls2⟩ : CfgV))))) (by kernel_rfl) (fun _ => by kernel_rfl) hS30 ?_
 refine WD.know 15 (.bool ((decide ((⟨ce1, cn1, xs1.map (·.v), ns1, ks1, ls1⟩ : CfgV) = (⟨ce2, cn2, xs2.map (·.v), ns2, ks2, ls2⟩ : CfgV))) == (decide ((⟨ce1, cn1, xs1.map (·.v), ns1, ks1, ls1⟩ : CfgV) = (⟨ce2, cn2, xs2.map (·.v), ns2, ks2, ls2⟩ : CfgV))))) (.bool true) rfl (congrArg Value.bool (by simp)) ?_
 refine WDl (NPt hN) 11 31 (.pointer (some ⟨g3, 0, none⟩)) (.agg #[.int .i64 ce1, .int .i64 cn1, .slice AS1 xs1.length cS1, .slice AN1 ns1.length cN1, .slice AK1 ks1.length cK1, .slice AL1 ls1.length cL1]) 16 (by kernel_rfl) (by kernel_rfl) (fun _ hS_ => run_ld (Fr.has hS_ (hC17.get 0 rfl) (by simp)) rfl) hS30 ?_
 refine WDl (NPt hN) 12 31 (.pointer (some ⟨g3, 0, none⟩)) (.agg #[.int .i64 ce1, .int .i64 cn1, .slice AS1 xs1.length cS1, .slice AN1 ns1.length cN1, .slice AK1 ks1.length cK1, .slice AL1 ls1.length cL1]) 17 (by kernel_rfl) (by kernel_rfl) (fun _ hS_ => run_ld (Fr.has hS_ (hC17.get 0 rfl) (by simp)) rfl) hS30 ?_
 refine WD.call 13 (by kernel_rfl) rfl rfl rfl rfl rfl (by kernel_rfl) (Copy16_ct ce1 cn1 AS1 cS1 xs1 AN1 cN1 ns1 AK1 cK1 ks1 AL1 cL1 ls1 w28 (Rd.fr hqS1 hC29.fr) (fun s_ h_ => (hat1 s_ h_).fr hC29.fr (fun _ _ => by simp)) (Rd.fr hqN1 hC29.fr) (Rd.fr hqK1 hC29.fr) (Rd.fr hqL1 hC29.fr) hlS1 hlN1 hlK1 hlL1) ?_
 rintro _ w31 ⟨ASz36, cSz36, xsz36, ANz36, cNz36, AKz36, cKz36, ALz36, cLz36, Gz36, rfl, hF32, hR33, hG34⟩
 have hC35 := hC29.callN hF32 hG34 hR33.lt
 have hS37 := hS30.trans hF32 (by simp)
 refine ⟨_, rfl, hS37, ?_⟩
 refine WD.call 14 (by kernel_rfl) rfl rfl rfl rfl rfl (by kernel_rfl) (Same_ct ce1 cn1 AS1 cS1 xs1 AN1 cN1 ns1 AK1 cK1 ks1 AL1 cL1 ls1 ce1 cn1 ASz36 cSz36 xsz36 ANz36 cNz36 ns1 AKz36 cKz36 ks1 ALz36 cLz36 ls1 w31 (Rd.fr hqS1 hC35.fr) (fun s_ h_ => (hat1 s_ h_).fr hC35.fr (fun _ _ => by simp)) (Rd.fr hqN1 hC35.fr) (Rd.fr hqK1 hC35.fr) (Rd.fr hqL1 hC35.fr) hlS1 hlN1 hlK1 hlL1 (own_rd hR33.S cellsS_len (by decide)) hR33.ins.at_ (own_rd hR33.N cellsN_len (by decide)) (own_rd hR33.K (Go.Tw.encI_len _) (by decide)) (own_rd hR33.L encL_len (by decide)) (by have q_ := congrArg List.length hR33.vals; simp only [List.length_map] at q_; omega) hlN1 hlK1 hlL1) ?_
 rintro _ w39 ⟨rfl, hF38⟩
 have hS41 := hS37.trans hF38 (by simp)
 refine ⟨_, rfl, hS41, ?_⟩
 have hC40 := hC35.call hF38
 have hf46 := svcsIn.fr hR33.ins hF38 (by simp)
 refine WDp (NPt hN) 15 20 (.bool (decide ((⟨ce1, cn1, xs1.map (·.v), ns1, ks1, ls1⟩ : CfgV) = (⟨ce1, cn1, xsz36.map (·.v), ns1, ks1, ls1⟩ : CfgV)))) (by kernel_rfl) (fun _ => by kernel_rfl) hS41 ?_
 refine WDp (NPt hN) 16 4 (.bool (decide ((⟨ce1, cn1, xs1.map (·.v), ns1, ks1, ls1⟩ : CfgV) = (⟨ce1, cn1, xsz36.map (·.v), ns1, ks1, ls1⟩ : CfgV)))) (by kernel_rfl) (fun _ => by kernel_rfl) hS41 ?_
 refine WD.done (by kernel_rfl) ?_
 refine QXn (hK14 _ _ ?_)
 refine WC.ret ?_
 refine (hret _ _ _ rfl ?_).1
 exact ⟨congrArg (fun b_ => Ending.returned (Value.bool b_)) (show ((decide ((⟨ce1, cn1, xs1.map (·.v), ns1, ks1, ls1⟩ : CfgV) = (⟨ce1, cn1, xsz36.map (·.v), ns1, ks1, ls1⟩ : CfgV)))) = true from by rw [hR33.vals]; simp), hC40.fr⟩

end Go.Proofs.YtfligklljkcbfaaDoor
