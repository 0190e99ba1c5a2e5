/- Contracts of functions of the program, each proved by a walk through its code; conditions stand in the statements. -/
import Derived.Test.YtfligklljkcbfaaGreatDoorStBA16
import Derived.Sort.AssemblyPlain
namespace Go.Proofs.YtfligklljkcbfaaGreatDoor
set_option linter.unusedSimpArgs false
set_option linter.unusedVariables false
set_option linter.unusedSectionVars false
open Go Go.RowKit Go.Tw
set_option linter.unusedVariables false
set_option maxRecDepth 20000
open Go.Sort
set_option maxHeartbeats 1000000 in
theorem pins_ct (A : Option Addr) (c : Nat) (xs : List Int) (a b : Nat)  (w : World) (hown : w.ownsRow 0 40 1 (.slice A xs.length c) xs.length (xs.flatMap (Go.Tw.encI .u32))) (hlen : xs.length ≤ 1099511627776) (hab : a < b) (hb : b ≤ xs.length) : Calls Tryz.prog 102 #[.slice A xs.length c, I6 (a : Int), I6 (b : Int)] w fun e w' => ∃ ys : List Int, e = .returned (.bool (partialInsertionSort ltInt (aOf xs) a b).2) ∧ Fr w w' (blk (.slice A xs.length c)) ∧ w'.ownsRow 0 40 1 (.slice A xs.length c) xs.length (ys.flatMap (Go.Tw.encI .u32)) ∧ aOf ys = (partialInsertionSort ltInt (aOf xs) a b).1 := by
 refine enterD (n := 133) Tryz.func102 rfl rfl (Nat.le_of_ble_eq_true rfl) ?_
 intro Q0 hN hret hret'
 have hcc_ := own_le hown
 have hC := Cx.start1 w (own_lt hown)
 have hLs_ := own_count (Go.Tw.encI_len .u32) (by decide) hown
 refine WCs (fun K1 hK2 => WCg (WLq 1 [(6, .bool false)] (WLd rfl (QXn (hK2 _ _ (WCs (fun K3 hK4 => WCg (WLz 2 [(12, I6 (IntKind.i64.wrap ((a : Int) + 1)))] (WLt (show (I6 (IntKind.i64.wrap ((a : Int) + 1)) : Value) = I6 ((a + 1 : Nat) : Int) from by rw [wrap_in_i64 _ (by omega) (by omega)] <;> first | rfl | (congr 1; done) | (congr 1; omega)) ?_)))))))))
 refine WLq 1 [(7, I6 ((a + 1 : Nat) : Int))] (WLd rfl (QXn (hK4 _ _ (WCs (fun K5 hK6 => WCs (fun K7 hK8 => WCg (WLq 1 [(8, I6 0)] (WLd rfl (QXn (hK8 _ _ (WC.block (WC.loop (fun m_ E_ w_ => ∃ (k i : Nat) (L : List Int), m_ = 5 - k ∧ E_ = [(0, .slice A xs.length c), (1, I6 (a : Int)), (2, I6 (b : Int)), (7, I6 (i : Int)), (8, I6 (k : Int))] ∧ Cx w (blk (.slice A xs.length c)) w_ [] [blk (.slice A xs.length c)] ∧ World.ownsRow w_ 0 40 1 (.slice A xs.length c) xs.length (L.flatMap (Go.Tw.encI .u32)) ∧ (k ≤ 5 ∧ (a + 1 ≤ i ∧ i ≤ b) ∧ L.length = xs.length ∧ partialIns ltInt a b (5 - k) i (aOf L) = partialInsertionSort ltInt (aOf xs) a b)) ⟨_, _, ⟨0, a + 1, xs, rfl, rfl, hC, hown, by omega, ⟨by omega, by omega⟩, rfl, rfl⟩, sub_of ⟨rfl, rfl, rfl, rfl, rfl, trivial⟩⟩ (fun m12 E_ dM K9 bg cD => ?_)))))))))))))
 obtain ⟨k, i, L, rfl, rfl, bw, hrow, hk, ⟨hi1, hi2⟩, hL, hpi⟩ := cD
 refine WCs (fun dN aW => WCs (fun dO aX => WCg (WLz 2 [(14, .bool (decide ((k : Int) < 5)))] (WLd rfl (QXn (aX _ _ (WCa 14 (decide ((k : Int) < 5)) rfl (fun bh => ?_) (fun bh => ?_))))))))
 ·
  have c8 : (k : Int) < 5 := by have q_ := of_decide_eq_true bh; omega
  refine WCt rfl (WC.skip (QXn (aW _ _ (WCs (fun dP aC => WC.block (WC.seqI (fun E_ w_ => ∃ (i2 : Nat), E_ = [(0, .slice A xs.length c), (1, I6 (a : Int)), (2, I6 (b : Int)), (7, I6 (i2 : Int)), (8, I6 (k : Int))] ∧ Cx w (blk (.slice A xs.length c)) w_ [] [blk (.slice A xs.length c)] ∧ World.ownsRow w_ 0 40 1 (.slice A xs.length c) xs.length (L.flatMap (Go.Tw.encI .u32)) ∧ ((i ≤ i2 ∧ i2 ≤ b) ∧ scanSorted ltInt (aOf L) b i = i2)) (fun dQ bx => ?_) ?_))))))
  ·
   refine WC.block (WC.loop (fun m_ E_ w_ => ∃ (i2 : Nat), m_ = b - i2 ∧ E_ = [(0, .slice A xs.length c), (1, I6 (a : Int)), (2, I6 (b : Int)), (7, I6 (i2 : Int)), (8, I6 (k : Int))] ∧ Cx w (blk (.slice A xs.length c)) w_ [] [blk (.slice A xs.length c)] ∧ World.ownsRow w_ 0 40 1 (.slice A xs.length c) xs.length (L.flatMap (Go.Tw.encI .u32)) ∧ ((i ≤ i2 ∧ i2 ≤ b) ∧ scanSorted ltInt (aOf L) b i2 = scanSorted ltInt (aOf L) b i)) ⟨_, _, ⟨i, rfl, rfl, bw, hrow, ⟨Nat.le_refl _, hi2⟩, rfl⟩, sub_of ⟨rfl, rfl, rfl, rfl, rfl, trivial⟩⟩ (fun m30 E_ dR dS cE cF => ?_))
   obtain ⟨i2, rfl, rfl, cG, row_m30, ⟨hj1, hj2⟩, hsc⟩ := cF
   refine WCs (fun dT cH => WCs (fun dU bz => WC.drawC cG [] (by kernel_rfl) (fun c9 cI bA aa => ?_)))
   have aq := own_fr row_m30 cI (by simp)
   refine WDx 4 [(0, 17, I6 (i2 : Int)), (1, 18, I6 (b : Int)), (2, 19, .bool (decide ((i2 : Int) < (b : Int)))), (3, 20, .bool (decide ((i2 : Int) < (b : Int))))] aa (WDa 20 (decide ((i2 : Int) < (b : Int))) rfl (fun bi => ?_) (fun bi => ?_))
   ·
    have da : (i2 : Int) < (b : Int) := by have q_ := of_decide_eq_true bi; omega
    refine WDx 2 [(4, 21, .slice A xs.length c), (5, 22, I6 (i2 : Int))] aa ?_
    have db := own_count (Go.Tw.encI_len _) (by decide) aq
    obtain ⟨bj, aY⟩ := get_some (xs := L) (i := i2) (by omega)
    obtain ⟨b45, bB⟩ := own_addr (by decide) (Go.Tw.encI_len _) aq aY
    refine WDi (NPt (NPt (NPt (NPb (NPt (NPb (NPt (NPt (NPb (NPt hN)))))))))) 6 A xs.length c 23 .i64 (i2 : Int) b45 0 i2 1 (by kernel_rfl) (by kernel_rfl) bB (by omega) (by omega) i2 (by first | (simp; done) | omega) aa (WDx 3 [(8, 25, .slice A xs.length c), (9, 26, I6 (i2 : Int)), (10, 27, I6 (IntKind.i64.wrap ((i2 : Int) - 1)))] aa (WD.recast (show (I6 (IntKind.i64.wrap ((i2 : Int) - 1)) : Value) = I6 ((i2 - 1 : Nat) : Int) from by rw [wrap_in_i64 _ (by omega) (by omega)] <;> first | rfl | (congr 1; done) | (congr 1; omega)) ?_))
    have dc := own_count (Go.Tw.encI_len _) (by decide) aq
    obtain ⟨bk, aZ⟩ := get_some (xs := L) (i := (i2 - 1)) (by omega)
    obtain ⟨b50, bC⟩ := own_addr (by decide) (Go.Tw.encI_len _) aq aZ
    refine WDi (NPt (NPt (NPt (NPb (NPt (NPb (NPt (NPt (NPb (NPt hN)))))))))) 11 A xs.length c 28 .i64 ((i2 - 1 : Nat) : Int) b50 0 (i2 - 1) 1 (by kernel_rfl) (by kernel_rfl) bC (by omega) (by omega) (i2 - 1) (by first | (simp; done) | omega) aa (WDm 7 40 (P0 b45 i2) (U4 bj) 24 (fun _ hS_ => run_load1 rfl (by simpa [Nat.add_assoc] using Rd.cell (own_rd (own_fr aq hS_ (by simp)) (Go.Tw.encI_len _) (by decide)) bB aY 0 _ rfl)) aa (WDm 12 40 (P0 b50 (i2 - 1)) (U4 bk) 29 (fun _ hS_ => run_load1 rfl (by simpa [Nat.add_assoc] using Rd.cell (own_rd (own_fr aq hS_ (by simp)) (Go.Tw.encI_len _) (by decide)) bC aZ 0 _ rfl)) aa (WDc 13 (Less_ct bj bk c9) ?_)))
    rintro _ dV ⟨rfl, bl⟩
    have bm := aa.trans bl (by simp)
    refine ⟨_, rfl, bm, ?_⟩
    have bD := bA.call bl
    have bE := own_fr aq bl (by simp)
    refine WDx 2 [(14, 31, .bool (!(decide (bj < bk)))), (15, 32, .bool (!(decide (bj < bk))))] bm (WDd (QXn (bz _ _ (WCa 32 (!(decide (bj < bk))) rfl (fun aD => ?_) (fun aD => ?_)))))
    ·
     have cJ : (decide (bj < bk)) = false := by first | (simpa only [Bool.not_eq_true', Bool.not_eq_false'] using aD) | simpa using aD
     refine WCt rfl (WC.skip (QXn (cH _ _ (WC.block (WCg (WLz 2 [(34, I6 (IntKind.i64.wrap ((i2 : Int) + 1)))] ?_))))))
     refine WLt (show (I6 (IntKind.i64.wrap ((i2 : Int) + 1)) : Value) = I6 ((i2 + 1 : Nat) : Int) from by rw [wrap_in_i64 _ (by omega) (by omega)] <;> first | rfl | (congr 1; done) | (congr 1; omega)) (WLq 1 [(7, I6 ((i2 + 1 : Nat) : Int))] (WLd rfl (QXb (QXn ?_))))
     have cK := bD.pick [] [0] rfl rfl
     refine fun a_ ha_ => cE _ _ _ ?_ ⟨i2 + 1, rfl, rfl, cK, bE, ⟨by omega, by omega⟩, by rw [← hsc]; exact (ss_go (by omega) aY aZ cJ).symm⟩ a_ (ha_.weaken (sub_of ⟨rfl, rfl, rfl, rfl, rfl, trivial⟩))
     omega
    ·
     have cJ : (decide (bj < bk)) = true := by first | (simpa only [Bool.not_eq_true', Bool.not_eq_false'] using aD) | simpa using aD
     refine WCf rfl (WC.exit (QXe (QXe (QX.block_hit (QXn ?_)))))
     have cL := bD.pickM [] [0] (by decide) rfl rfl
     exact fun a_ ha_ => bx _ _ ⟨i2, rfl, cL, bE, ⟨by omega, by omega⟩, by rw [← hsc]; exact ss_stop2 aY aZ cJ⟩ a_ (ha_.weaken (sub_of ⟨rfl, rfl, rfl, rfl, rfl, trivial⟩))
   ·
    have da : (b : Int) ≤ (i2 : Int) := by have q_ := of_decide_eq_false bi; omega
    refine WDx 12 [(4, 21, undef), (5, 22, undef), (6, 23, undef), (7, 24, undef), (8, 25, undef), (9, 26, undef), (10, 27, undef), (11, 28, undef), (12, 29, undef), (13, 30, undef), (14, 31, undef), (15, 32, .bool false)] aa (WDd (QXn (bz _ _ (WCf rfl (WC.exit (QXe ?_))))))
    refine QXe (QX.block_hit (QXn ?_))
    have cM := bA.pickM [] [0] (by decide) rfl rfl
    exact fun a_ ha_ => bx _ _ ⟨i2, rfl, cM, aq, ⟨by omega, by omega⟩, by rw [← hsc]; exact ss_stop1 (by omega)⟩ a_ (ha_.weaken (sub_of ⟨rfl, rfl, rfl, rfl, rfl, trivial⟩))
  rintro E_ dW ⟨i2, rfl, bn, row_m24, ⟨hj1, hj2⟩, hss_⟩
  refine WCs (fun dX bo => WCs (fun dY bp => WCg (WLz 3 [(37, .bool ((i2 : Int) == (b : Int)))] (WLd rfl (QXn (bp _ _ (WCa 37 ((i2 : Int) == (b : Int)) rfl (fun bq => ?_) (fun bq => ?_))))))))
  ·
   have dd : (i2 : Int) = (b : Int) := by simpa using bq
   refine WCt rfl (WCs (fun dZ bF => WCg (WLq 1 [(6, .bool true)] (WLd rfl (QXn (bF _ _ (WC.ret (QXr (QXk ?_)))))))))
   refine QXr (QXr (QXk (QXr ?_)))
   refine (hret _ _ _ rfl ?_).1
   clear hN hret hret' bF bp bo aC aX aW hK8 hK6 hK4 hK2
   have hp_ := pin_sorted (a := a) (k := k) (i := i) (d := aOf L) (by omega) (hss_.trans (by omega))
   rw [hpi] at hp_
   exact ⟨L, by rw [hp_]; rfl, bn.fr, row_m24, by rw [hp_]⟩
  ·
   have dd : ¬ ((i2 : Int) = (b : Int)) := by simpa using bq
   refine WCf rfl (WC.skip (QXn (bo _ _ (WCs (fun d0 bG => WCs (fun d1 bH => WCg (WLz 3 [(40, I6 (IntKind.i64.wrap ((b : Int) - (a : Int))))] (WLt (show (I6 (IntKind.i64.wrap ((b : Int) - (a : Int))) : Value) = I6 ((b - a : Nat) : Int) from by rw [wrap_in_i64 _ (by omega) (by omega)] <;> first | rfl | (congr 1; done) | (congr 1; omega)) ?_))))))))
   refine WLq 1 [(41, .bool (decide (((b - a : Nat) : Int) < 50)))] (WLd rfl (QXn (bH _ _ (WCa 41 (decide (((b - a : Nat) : Int) < 50)) rfl (fun br => ?_) (fun br => ?_)))))
   ·
    have de : ((b - a : Nat) : Int) < 50 := by have q_ := of_decide_eq_true br; omega
    refine WCt rfl (WCs (fun d2 bI => WCg (WLq 1 [(6, .bool false)] (WLd rfl (QXn (bI _ _ (WC.ret (QXr (QXk ?_)))))))))
    refine QXr (QXr (QXk (QXr ?_)))
    refine (hret _ _ _ rfl ?_).1
    clear hN hret hret' bI bH bG bp bo aC aX aW hK8 hK6 hK4 hK2
    have hp_ := pin_short (a := a) (k := k) (i := i) (d := aOf L) (by omega) hss_ (by omega) (by omega)
    rw [hpi] at hp_
    exact ⟨L, by rw [hp_]; rfl, bn.fr, row_m24, by rw [hp_]⟩
   ·
    have de : (50 : Int) ≤ ((b - a : Nat) : Int) := by have q_ := of_decide_eq_false br; omega
    refine WCf rfl (WC.skip (QXn (bG _ _ (WCs (fun d3 cN => WC.drawC bn (blk (.slice A xs.length c)) (by kernel_rfl) (fun d4 cO cP af => ?_))))))
    have ax := own_fr row_m24 cO (by simp)
    refine WDx 5 [(0, 42, .slice A xs.length c), (1, 43, I6 (i2 : Int)), (2, 44, .slice A xs.length c), (3, 45, I6 (i2 : Int)), (4, 46, I6 (IntKind.i64.wrap ((i2 : Int) - 1)))] af (WD.recast (show (I6 (IntKind.i64.wrap ((i2 : Int) - 1)) : Value) = I6 ((i2 - 1 : Nat) : Int) from by rw [wrap_in_i64 _ (by omega) (by omega)] <;> first | rfl | (congr 1; done) | (congr 1; omega)) (WDx 3 [(5, 47, .slice A xs.length c), (6, 48, I6 (i2 : Int)), (7, 49, I6 (IntKind.i64.wrap ((i2 : Int) - 1)))] af (WD.recast (show (I6 (IntKind.i64.wrap ((i2 : Int) - 1)) : Value) = I6 ((i2 - 1 : Nat) : Int) from by rw [wrap_in_i64 _ (by omega) (by omega)] <;> first | rfl | (congr 1; done) | (congr 1; omega)) ?_)))
    have df := own_count (Go.Tw.encI_len _) (by decide) ax
    obtain ⟨bs, aE⟩ := get_some (xs := L) (i := (i2 - 1)) (by omega)
    obtain ⟨b85, bJ⟩ := own_addr (by decide) (Go.Tw.encI_len _) ax aE
    refine WDi (NPt (NPb (NPt (NPt (NPb (NPt hN)))))) 8 A xs.length c 50 .i64 ((i2 - 1 : Nat) : Int) b85 0 (i2 - 1) 1 (by kernel_rfl) (by kernel_rfl) bJ (by omega) (by omega) (i2 - 1) (by first | (simp; done) | omega) af (WDx 2 [(10, 52, .slice A xs.length c), (11, 53, I6 (i2 : Int))] af ?_)
    have dg := own_count (Go.Tw.encI_len _) (by decide) ax
    obtain ⟨bt, aB⟩ := get_some (xs := L) (i := i2) (by omega)
    obtain ⟨b90, a0⟩ := own_addr (by decide) (Go.Tw.encI_len _) ax aB
    refine WDi (NPt (NPb (NPt (NPt (NPb (NPt hN)))))) 12 A xs.length c 54 .i64 (i2 : Int) b90 0 i2 1 (by kernel_rfl) (by kernel_rfl) a0 (by omega) (by omega) i2 (by first | (simp; done) | omega) af ?_
    refine two_loads 9 13 (Instr.loadAt 40 (P0 b85 (i2 - 1))) (Instr.loadAt 40 (P0 b90 i2)) 51 55 (U4 bs) (U4 bt) (by kernel_rfl) (by kernel_rfl) (by kernel_rfl) (run_load1 rfl (by simpa [Nat.add_assoc] using Rd.cell (own_rd ax (Go.Tw.encI_len _) (by decide)) bJ aE 0 _ rfl)) (run_load1 rfl (by simpa [Nat.add_assoc] using Rd.cell (own_rd ax (Go.Tw.encI_len _) (by decide)) a0 aB 0 _ rfl)) af (by kernel_rfl) (by kernel_rfl) (by kernel_rfl) (by kernel_rfl) (by decide) (by kernel_rfl) ?_
    refine WDi (NPt (NPb (NPt (NPt (NPb (NPt hN)))))) 14 A xs.length c 56 .i64 (i2 : Int) b90 0 i2 1 (by kernel_rfl) (by kernel_rfl) a0 (by omega) (by omega) i2 (by first | (simp; done) | omega) af ?_
    obtain ⟨d5, cQ, cR, aF, bK⟩ := stoE_run Tryz.prog (Go.Tw.encI_len _) cP 0 a0 rfl ax i2 0 (x := bt) aB bs [U4 bs] rfl 40 (U4 bs) (i2) rfl rfl rfl (by first | rfl | simp [Nat.add_assoc])
    have aG := af.trans cR (fun x_ hx_ => .inl hx_)
    refine WDu 15 cQ aG ?_
    have c1 := own_count (Go.Tw.encI_len _) (by decide) aF
    obtain ⟨cS, a1⟩ := get_some (xs := L.set i2 bs) (i := (i2 - 1)) (by omega)
    obtain ⟨b105, a2⟩ := own_addr (by decide) (Go.Tw.encI_len _) aF a1
    refine WDi (NPt (NPb (NPt (NPt (NPb (NPt hN)))))) 16 A xs.length c 57 .i64 ((i2 - 1 : Nat) : Int) b105 0 (i2 - 1) 1 (by kernel_rfl) (by kernel_rfl) a2 (by omega) (by omega) (i2 - 1) (by first | (simp; done) | omega) aG ?_
    obtain ⟨dh, bL, bM, bN, a3⟩ := stoE_run Tryz.prog (Go.Tw.encI_len _) bK 0 a2 rfl aF (i2 - 1) 0 (x := cS) a1 bt [U4 bt] rfl 40 (U4 bt) ((i2 - 1)) rfl rfl rfl (by first | rfl | simp [Nat.add_assoc])
    have bO := aG.trans bM (fun x_ hx_ => .inl hx_)
    refine WDu 17 bL bO (WDd (QXn (cN _ _ ?_)))
    obtain ⟨L1, hL1⟩ : ∃ l_ : List Int, l_ = (L.set i2 bs).set (i2 - 1) bt := ⟨_, rfl⟩
    have ay := bN
    rw [← hL1] at ay
    have hLnL1 := own_count (Go.Tw.encI_len .u32) (by decide) ay
    refine WC.seqI (fun E_ w_ => ∃ (L2 : List Int), E_ = [(0, .slice A xs.length c), (1, I6 (a : Int)), (2, I6 (b : Int)), (7, I6 (i2 : Int)), (8, I6 (k : Int))] ∧ Cx w (blk (.slice A xs.length c)) w_ [] [blk (.slice A xs.length c)] ∧ World.ownsRow w_ 0 40 1 (.slice A xs.length c) xs.length (L2.flatMap (Go.Tw.encI .u32)) ∧ (L2.length = xs.length ∧ aOf L2 = pin2 a i2 (aOf L1))) (fun di aH => ?_) ?_
    ·
     refine WCs (fun dj bP => WCg (WLz 3 [(60, I6 (IntKind.i64.wrap ((i2 : Int) - (a : Int))))] (WLt (show (I6 (IntKind.i64.wrap ((i2 : Int) - (a : Int))) : Value) = I6 ((i2 - a : Nat) : Int) from by rw [wrap_in_i64 _ (by omega) (by omega)] <;> first | rfl | (congr 1; done) | (congr 1; omega)) (WLq 1 [(61, .bool (decide (((i2 - a : Nat) : Int) ≥ 2)))] (WLd rfl (QXn (bP _ _ (WCa 61 (decide (((i2 - a : Nat) : Int) ≥ 2)) rfl (fun aI => ?_) (fun aI => ?_)))))))))
     ·
      have cT : (2 : Int) ≤ ((i2 - a : Nat) : Int) := by have q_ := of_decide_eq_true aI; omega
      refine WCt rfl (WCs (fun dk bQ => WCg (WLz 2 [(63, I6 (IntKind.i64.wrap ((i2 : Int) - 1)))] (WLt (show (I6 (IntKind.i64.wrap ((i2 : Int) - 1)) : Value) = I6 ((i2 - 1 : Nat) : Int) from by rw [wrap_in_i64 _ (by omega) (by omega)] <;> first | rfl | (congr 1; done) | (congr 1; omega)) (WLq 1 [(9, I6 ((i2 - 1 : Nat) : Int))] (WLd rfl (QXn (bQ _ _ ?_))))))))
      refine WC.block (WC.loop (fun m_ E_ w_ => ∃ (j : Nat) (L3 : List Int), m_ = j + 1 ∧ E_ = [(0, .slice A xs.length c), (1, I6 (a : Int)), (2, I6 (b : Int)), (7, I6 (i2 : Int)), (8, I6 (k : Int)), (9, I6 (j : Int))] ∧ Cx w (blk (.slice A xs.length c)) w_ [] [blk (.slice A xs.length c)] ∧ World.ownsRow w_ 0 40 1 (.slice A xs.length c) xs.length (L3.flatMap (Go.Tw.encI .u32)) ∧ (j ≤ i2 - 1 ∧ L3.length = xs.length ∧ shiftDown ltInt j (aOf L3) = shiftDown ltInt (i2 - 1) (aOf L1))) ⟨_, _, ⟨i2 - 1, L1, rfl, rfl, a3, ay, Nat.le_refl _, hLnL1, rfl⟩, sub_of ⟨rfl, rfl, rfl, rfl, rfl, rfl, trivial⟩⟩ (fun m128 E_ dl dm bR bS => ?_))
      obtain ⟨j, L3, rfl, rfl, a4, hrow3, hj, hL3, hsd⟩ := bS
      refine WCs (fun dn bT => WCs (fun dp bU => WCg (WLz 2 [(65, .bool (decide ((j : Int) ≥ 1)))] (WLd rfl (QXn (bU _ _ (WCa 65 (decide ((j : Int) ≥ 1)) rfl (fun aJ => ?_) (fun aJ => ?_))))))))
      ·
       have cU : (1 : Int) ≤ (j : Int) := by have q_ := of_decide_eq_true aJ; omega
       refine WCt rfl (WC.skip (QXn (bT _ _ (WCs (fun dq bV => WC.block (WCs (fun dr bW => ?_)))))))
       refine WCs (fun ds bX => WC.drawC a4 [] (by kernel_rfl) (fun cV bY bZ ad => ?_))
       have ak := own_fr hrow3 bY (by simp)
       refine WDx 2 [(0, 68, .slice A xs.length c), (1, 69, I6 (j : Int))] ad ?_
       have c2 := own_count (Go.Tw.encI_len _) (by decide) ak
       obtain ⟨ag, am⟩ := get_some (xs := L3) (i := j) (by omega)
       obtain ⟨b149, an⟩ := own_addr (by decide) (Go.Tw.encI_len _) ak am
       refine WDi (NPt (NPt (NPb (NPt (NPt (NPb (NPt (NPb (NPt (NPt (NPb (NPt hN)))))))))))) 2 A xs.length c 70 .i64 (j : Int) b149 0 j 1 (by kernel_rfl) (by kernel_rfl) an (by omega) (by omega) j (by first | (simp; done) | omega) ad (WDx 3 [(4, 72, .slice A xs.length c), (5, 73, I6 (j : Int)), (6, 74, I6 (IntKind.i64.wrap ((j : Int) - 1)))] ad (WD.recast (show (I6 (IntKind.i64.wrap ((j : Int) - 1)) : Value) = I6 ((j - 1 : Nat) : Int) from by rw [wrap_in_i64 _ (by omega) (by omega)] <;> first | rfl | (congr 1; done) | (congr 1; omega)) ?_))
       have c3 := own_count (Go.Tw.encI_len _) (by decide) ak
       obtain ⟨ah, ar⟩ := get_some (xs := L3) (i := (j - 1)) (by omega)
       obtain ⟨b154, az⟩ := own_addr (by decide) (Go.Tw.encI_len _) ak ar
       refine WDi (NPt (NPt (NPb (NPt (NPt (NPb (NPt (NPb (NPt (NPt (NPb (NPt hN)))))))))))) 7 A xs.length c 75 .i64 ((j - 1 : Nat) : Int) b154 0 (j - 1) 1 (by kernel_rfl) (by kernel_rfl) az (by omega) (by omega) (j - 1) (by first | (simp; done) | omega) ad (WDm 3 40 (P0 b149 j) (U4 ag) 71 (fun _ hS_ => run_load1 rfl (by simpa [Nat.add_assoc] using Rd.cell (own_rd (own_fr ak hS_ (by simp)) (Go.Tw.encI_len _) (by decide)) an am 0 _ rfl)) ad (WDm 8 40 (P0 b154 (j - 1)) (U4 ah) 76 (fun _ hS_ => run_load1 rfl (by simpa [Nat.add_assoc] using Rd.cell (own_rd (own_fr ak hS_ (by simp)) (Go.Tw.encI_len _) (by decide)) az ar 0 _ rfl)) ad (WDc 9 (Less_ct ag ah cV) ?_)))
       rintro _ dt ⟨rfl, aK⟩
       have a5 := ad.trans aK (by simp)
       refine ⟨_, rfl, a5, ?_⟩
       have a6 := bZ.call aK
       have aL := own_fr ak aK (by simp)
       refine WDq 10 78 (.bool (!(decide (ag < ah)))) a5 (WDd (QXn (bX _ _ (WCa 78 (!(decide (ag < ah))) rfl (fun au => ?_) (fun au => ?_)))))
       ·
        have bu : (decide (ag < ah)) = false := by first | (simpa only [Bool.not_eq_true', Bool.not_eq_false'] using au) | simpa using au
        refine WCt rfl (WC.exit (QXe (QX.block_miss (by decide) (QXe (QXe ?_)))))
        refine QX.block_hit (QXn ?_)
        have b0 := a6.pickM [] [0] (by decide) rfl rfl
        exact fun a_ ha_ => aH _ _ ⟨L3, rfl, b0, aL, (own_count (Go.Tw.encI_len .u32) (by decide) aL), by unfold pin2; rw [if_pos (by omega), ← hsd]; exact (sdn_stop (by omega) am ar bu).symm⟩ a_ (ha_.weaken (sub_of ⟨rfl, rfl, rfl, rfl, rfl, trivial⟩))
       ·
        have bu : (decide (ag < ah)) = true := by first | (simpa only [Bool.not_eq_true', Bool.not_eq_false'] using au) | simpa using au
        refine WCf rfl (WC.skip (QXn (bW _ _ (WC.drawC a6 (blk (.slice A xs.length c)) (by kernel_rfl) (fun du b1 b2 ab => ?_)))))
        have aM := own_fr aL b1 (by simp)
        refine WDx 5 [(0, 79, .slice A xs.length c), (1, 80, I6 (j : Int)), (2, 81, .slice A xs.length c), (3, 82, I6 (j : Int)), (4, 83, I6 (IntKind.i64.wrap ((j : Int) - 1)))] ab (WD.recast (show (I6 (IntKind.i64.wrap ((j : Int) - 1)) : Value) = I6 ((j - 1 : Nat) : Int) from by rw [wrap_in_i64 _ (by omega) (by omega)] <;> first | rfl | (congr 1; done) | (congr 1; omega)) (WDx 3 [(5, 84, .slice A xs.length c), (6, 85, I6 (j : Int)), (7, 86, I6 (IntKind.i64.wrap ((j : Int) - 1)))] ab (WD.recast (show (I6 (IntKind.i64.wrap ((j : Int) - 1)) : Value) = I6 ((j - 1 : Nat) : Int) from by rw [wrap_in_i64 _ (by omega) (by omega)] <;> first | rfl | (congr 1; done) | (congr 1; omega)) (WDi (NPb (NPt (NPt (NPb (NPt (NPb (NPt (NPt (NPb (NPt hN)))))))))) 8 A xs.length c 87 .i64 ((j - 1 : Nat) : Int) b154 0 (j - 1) 1 (by kernel_rfl) (by kernel_rfl) az (by omega) (by omega) (j - 1) (by first | (simp; done) | omega) ab (WDx 2 [(10, 89, .slice A xs.length c), (11, 90, I6 (j : Int))] ab ?_)))))
        refine WDi (NPb (NPt (NPt (NPb (NPt (NPb (NPt (NPt (NPb (NPt hN)))))))))) 12 A xs.length c 91 .i64 (j : Int) b149 0 j 1 (by kernel_rfl) (by kernel_rfl) an (by omega) (by omega) j (by first | (simp; done) | omega) ab ?_
        refine two_loads 9 13 (Instr.loadAt 40 (P0 b154 (j - 1))) (Instr.loadAt 40 (P0 b149 j)) 88 92 (U4 ah) (U4 ag) (by kernel_rfl) (by kernel_rfl) (by kernel_rfl) (run_load1 rfl (by simpa [Nat.add_assoc] using Rd.cell (own_rd aM (Go.Tw.encI_len _) (by decide)) az ar 0 _ rfl)) (run_load1 rfl (by simpa [Nat.add_assoc] using Rd.cell (own_rd aM (Go.Tw.encI_len _) (by decide)) an am 0 _ rfl)) ab (by kernel_rfl) (by kernel_rfl) (by kernel_rfl) (by kernel_rfl) (by decide) (by kernel_rfl) ?_
        refine WDi (NPb (NPt (NPt (NPb (NPt (NPb (NPt (NPt (NPb (NPt hN)))))))))) 14 A xs.length c 93 .i64 (j : Int) b149 0 j 1 (by kernel_rfl) (by kernel_rfl) an (by omega) (by omega) j (by first | (simp; done) | omega) ab ?_
        obtain ⟨dv, b3, b4, aN, b5⟩ := stoE_run Tryz.prog (Go.Tw.encI_len _) b2 0 an rfl aM j 0 (x := ag) am ah [U4 ah] rfl 40 (U4 ah) (j) rfl rfl rfl (by first | rfl | simp [Nat.add_assoc])
        have aO := ab.trans b4 (fun x_ hx_ => .inl hx_)
        refine WDu 15 b3 aO ?_
        have c4 := own_count (Go.Tw.encI_len _) (by decide) aN
        obtain ⟨cW, a7⟩ := get_some (xs := L3.set j ah) (i := (j - 1)) (by omega)
        obtain ⟨b189, a8⟩ := own_addr (by decide) (Go.Tw.encI_len _) aN a7
        refine WDi (NPb (NPt (NPt (NPb (NPt (NPb (NPt (NPt (NPb (NPt hN)))))))))) 16 A xs.length c 94 .i64 ((j - 1 : Nat) : Int) b189 0 (j - 1) 1 (by kernel_rfl) (by kernel_rfl) a8 (by omega) (by omega) (j - 1) (by first | (simp; done) | omega) aO ?_
        obtain ⟨dw, b6, b7, b8, b9⟩ := stoE_run Tryz.prog (Go.Tw.encI_len _) b5 0 a8 rfl aN (j - 1) 0 (x := cW) a7 ag [U4 ag] rfl 40 (U4 ag) ((j - 1)) rfl rfl rfl (by first | rfl | simp [Nat.add_assoc])
        have ca := aO.trans b7 (fun x_ hx_ => .inl hx_)
        refine WDu 17 b6 ca (WDd (QXb (QXn (bV _ _ (WCg (WLz 2 [(67, I6 (IntKind.i64.wrap ((j : Int) - 1)))] ?_))))))
        refine WLt (show (I6 (IntKind.i64.wrap ((j : Int) - 1)) : Value) = I6 ((j - 1 : Nat) : Int) from by rw [wrap_in_i64 _ (by omega) (by omega)] <;> first | rfl | (congr 1; done) | (congr 1; omega)) (WLq 1 [(9, I6 ((j - 1 : Nat) : Int))] (WLd rfl (QXn ?_)))
        have cb := b9.pick [] [0] rfl rfl
        refine fun a_ ha_ => bR _ _ _ ?_ ⟨j - 1, (L3.set j ah).set (j - 1) ag, rfl, rfl, cb, b8, by omega, (set2_len _ _ _ _ _).trans hL3, by rw [← hsd]; exact (sdn_go (by omega) am ar bu).symm⟩ a_ (ha_.weaken (sub_of ⟨rfl, rfl, rfl, rfl, rfl, rfl, trivial⟩))
        omega
      ·
       have cU : (j : Int) < 1 := by have q_ := of_decide_eq_false aJ; omega
       refine WCf rfl (WC.exit (QXe (QXe (QX.block_hit (QXn ?_)))))
       have cc := a4.pickM [] [0] (by decide) rfl rfl
       exact fun a_ ha_ => aH _ _ ⟨L3, rfl, cc, hrow3, (own_count (Go.Tw.encI_len .u32) (by decide) hrow3), by unfold pin2; rw [if_pos (by omega), ← hsd]; exact (sdn_zero (by omega)).symm⟩ a_ (ha_.weaken (sub_of ⟨rfl, rfl, rfl, rfl, rfl, trivial⟩))
     ·
      have cT : ((i2 - a : Nat) : Int) < 2 := by have q_ := of_decide_eq_false aI; omega
      refine WCf rfl (WC.skip (QXn ?_))
      have cd := a3.pickM [] [0] (by decide) rfl rfl
      exact fun a_ ha_ => aH _ _ ⟨L1, rfl, cd, ay, hLnL1, (if_neg (by omega)).symm⟩ a_ (ha_.weaken (sub_of ⟨rfl, rfl, rfl, rfl, rfl, trivial⟩))
    rintro E_ dx ⟨L2, rfl, a9, hrow2, hL2, hL2x⟩
    refine WCs (fun dy ce => WCg (WLz 3 [(97, I6 (IntKind.i64.wrap ((b : Int) - (i2 : Int))))] (WLt (show (I6 (IntKind.i64.wrap ((b : Int) - (i2 : Int))) : Value) = I6 ((b - i2 : Nat) : Int) from by rw [wrap_in_i64 _ (by omega) (by omega)] <;> first | rfl | (congr 1; done) | (congr 1; omega)) (WLq 1 [(98, .bool (decide (((b - i2 : Nat) : Int) ≥ 2)))] (WLd rfl (QXn (ce _ _ (WCa 98 (decide (((b - i2 : Nat) : Int) ≥ 2)) rfl (fun aP => ?_) (fun aP => ?_)))))))))
    ·
     have cX : (2 : Int) ≤ ((b - i2 : Nat) : Int) := by have q_ := of_decide_eq_true aP; omega
     refine WCt rfl (WCs (fun dz cf => WCg (WLz 2 [(100, I6 (IntKind.i64.wrap ((i2 : Int) + 1)))] (WLt (show (I6 (IntKind.i64.wrap ((i2 : Int) + 1)) : Value) = I6 ((i2 + 1 : Nat) : Int) from by rw [wrap_in_i64 _ (by omega) (by omega)] <;> first | rfl | (congr 1; done) | (congr 1; omega)) (WLq 1 [(10, I6 ((i2 + 1 : Nat) : Int))] (WLd rfl (QXn (cf _ _ ?_))))))))
     refine WC.block (WC.loop (fun m_ E_ w_ => ∃ (j : Nat) (L4 : List Int), m_ = b - j ∧ E_ = [(0, .slice A xs.length c), (1, I6 (a : Int)), (2, I6 (b : Int)), (7, I6 (i2 : Int)), (8, I6 (k : Int)), (10, I6 (j : Int))] ∧ Cx w (blk (.slice A xs.length c)) w_ [] [blk (.slice A xs.length c)] ∧ World.ownsRow w_ 0 40 1 (.slice A xs.length c) xs.length (L4.flatMap (Go.Tw.encI .u32)) ∧ ((i2 + 1 ≤ j ∧ j ≤ b) ∧ L4.length = xs.length ∧ shiftUp ltInt b j (aOf L4) = shiftUp ltInt b (i2 + 1) (aOf L2))) ⟨_, _, ⟨i2 + 1, L2, rfl, rfl, a9, hrow2, ⟨Nat.le_refl _, by omega⟩, hL2, rfl⟩, sub_of ⟨rfl, rfl, rfl, rfl, rfl, rfl, trivial⟩⟩ (fun m209 E_ dA dB cg ch => ?_))
     obtain ⟨j, L4, rfl, rfl, ba, hrow4, ⟨hu1, hu2⟩, hL4, hsu⟩ := ch
     refine WCs (fun dC ci => WCs (fun dD cj => WCg (WLz 3 [(103, .bool (decide ((j : Int) < (b : Int))))] (WLd rfl (QXn (cj _ _ (WCa 103 (decide ((j : Int) < (b : Int))) rfl (fun aQ => ?_) (fun aQ => ?_))))))))
     ·
      have cY : (j : Int) < (b : Int) := by have q_ := of_decide_eq_true aQ; omega
      refine WCt rfl (WC.skip (QXn (ci _ _ (WCs (fun dE ck => WC.block (WCs (fun dF cl => ?_)))))))
      refine WCs (fun dG cm => WC.drawC ba [] (by kernel_rfl) (fun cZ cn co ae => ?_))
      have al := own_fr hrow4 cn (by simp)
      refine WDx 2 [(0, 106, .slice A xs.length c), (1, 107, I6 (j : Int))] ae ?_
      have c5 := own_count (Go.Tw.encI_len _) (by decide) al
      obtain ⟨ai, ao⟩ := get_some (xs := L4) (i := j) (by omega)
      obtain ⟨b230, ap⟩ := own_addr (by decide) (Go.Tw.encI_len _) al ao
      refine WDi (NPt (NPt (NPb (NPt (NPt (NPb (NPb (NPt (NPt (NPb (NPt hN))))))))))) 2 A xs.length c 108 .i64 (j : Int) b230 0 j 1 (by kernel_rfl) (by kernel_rfl) ap (by omega) (by omega) j (by first | (simp; done) | omega) ae (WDx 3 [(4, 110, .slice A xs.length c), (5, 111, I6 (j : Int)), (6, 112, I6 (IntKind.i64.wrap ((j : Int) - 1)))] ae (WD.recast (show (I6 (IntKind.i64.wrap ((j : Int) - 1)) : Value) = I6 ((j - 1 : Nat) : Int) from by rw [wrap_in_i64 _ (by omega) (by omega)] <;> first | rfl | (congr 1; done) | (congr 1; omega)) ?_))
      have c6 := own_count (Go.Tw.encI_len _) (by decide) al
      obtain ⟨aj, av⟩ := get_some (xs := L4) (i := (j - 1)) (by omega)
      obtain ⟨b235, aA⟩ := own_addr (by decide) (Go.Tw.encI_len _) al av
      refine WDi (NPt (NPt (NPb (NPt (NPt (NPb (NPb (NPt (NPt (NPb (NPt hN))))))))))) 7 A xs.length c 113 .i64 ((j - 1 : Nat) : Int) b235 0 (j - 1) 1 (by kernel_rfl) (by kernel_rfl) aA (by omega) (by omega) (j - 1) (by first | (simp; done) | omega) ae (WDm 3 40 (P0 b230 j) (U4 ai) 109 (fun _ hS_ => run_load1 rfl (by simpa [Nat.add_assoc] using Rd.cell (own_rd (own_fr al hS_ (by simp)) (Go.Tw.encI_len _) (by decide)) ap ao 0 _ rfl)) ae (WDm 8 40 (P0 b235 (j - 1)) (U4 aj) 114 (fun _ hS_ => run_load1 rfl (by simpa [Nat.add_assoc] using Rd.cell (own_rd (own_fr al hS_ (by simp)) (Go.Tw.encI_len _) (by decide)) aA av 0 _ rfl)) ae (WDc 9 (Less_ct ai aj cZ) ?_)))
      rintro _ dH ⟨rfl, aR⟩
      have bb := ae.trans aR (by simp)
      refine ⟨_, rfl, bb, ?_⟩
      have bc := co.call aR
      have aS := own_fr al aR (by simp)
      refine WDq 10 116 (.bool (!(decide (ai < aj)))) bb (WDd (QXn (cm _ _ (WCa 116 (!(decide (ai < aj))) rfl (fun aw => ?_) (fun aw => ?_)))))
      ·
       have bv : (decide (ai < aj)) = false := by first | (simpa only [Bool.not_eq_true', Bool.not_eq_false'] using aw) | simpa using aw
       refine WCt rfl (WC.exit (QXe (QX.block_miss (by decide) (QXe (QXe ?_)))))
       refine QX.block_hit (QXb (QXn (aC _ _ (WCg (WLz 2 [(16, I6 (IntKind.i64.wrap ((k : Int) + 1)))] (WLt (show (I6 (IntKind.i64.wrap ((k : Int) + 1)) : Value) = I6 ((k + 1 : Nat) : Int) from by rw [wrap_in_i64 _ (by omega) (by omega)] <;> first | rfl | (congr 1; done) | (congr 1; omega)) ?_))))))
       refine WLq 1 [(8, I6 ((k + 1 : Nat) : Int))] (WLd rfl (QXn ?_))
       have cp := bc.pick [] [0] rfl rfl
       refine fun a_ ha_ => bg _ _ _ ?_ ⟨k + 1, i2, L4, rfl, rfl, cp, aS, by omega, ⟨by omega, by omega⟩, (own_count (Go.Tw.encI_len .u32) (by decide) aS), by rw [← hpi]; exact (show partialIns ltInt a b (5 - k) i (aOf L) = _ from by rw [pin_go (by omega) hss_ (by omega) (by omega), ← aSwp aB aE, ← hL1, ← hL2x]; unfold pin3; rw [if_pos (by omega), ← hsu, sup_stop2 ao av bv]).symm⟩ a_ (ha_.weaken (sub_of ⟨rfl, rfl, rfl, rfl, rfl, trivial⟩))
       omega
      ·
       have bv : (decide (ai < aj)) = true := by first | (simpa only [Bool.not_eq_true', Bool.not_eq_false'] using aw) | simpa using aw
       refine WCf rfl (WC.skip (QXn (cl _ _ (WC.drawC bc (blk (.slice A xs.length c)) (by kernel_rfl) (fun dI cq cr ac => ?_)))))
       have aT := own_fr aS cq (by simp)
       refine WDx 5 [(0, 117, .slice A xs.length c), (1, 118, I6 (j : Int)), (2, 119, .slice A xs.length c), (3, 120, I6 (j : Int)), (4, 121, I6 (IntKind.i64.wrap ((j : Int) - 1)))] ac (WD.recast (show (I6 (IntKind.i64.wrap ((j : Int) - 1)) : Value) = I6 ((j - 1 : Nat) : Int) from by rw [wrap_in_i64 _ (by omega) (by omega)] <;> first | rfl | (congr 1; done) | (congr 1; omega)) (WDx 3 [(5, 122, .slice A xs.length c), (6, 123, I6 (j : Int)), (7, 124, I6 (IntKind.i64.wrap ((j : Int) - 1)))] ac (WD.recast (show (I6 (IntKind.i64.wrap ((j : Int) - 1)) : Value) = I6 ((j - 1 : Nat) : Int) from by rw [wrap_in_i64 _ (by omega) (by omega)] <;> first | rfl | (congr 1; done) | (congr 1; omega)) (WDi (NPb (NPt (NPt (NPb (NPb (NPt (NPt (NPb (NPt hN))))))))) 8 A xs.length c 125 .i64 ((j - 1 : Nat) : Int) b235 0 (j - 1) 1 (by kernel_rfl) (by kernel_rfl) aA (by omega) (by omega) (j - 1) (by first | (simp; done) | omega) ac (WDx 2 [(10, 127, .slice A xs.length c), (11, 128, I6 (j : Int))] ac ?_)))))
       refine WDi (NPb (NPt (NPt (NPb (NPb (NPt (NPt (NPb (NPt hN))))))))) 12 A xs.length c 129 .i64 (j : Int) b230 0 j 1 (by kernel_rfl) (by kernel_rfl) ap (by omega) (by omega) j (by first | (simp; done) | omega) ac ?_
       refine two_loads 9 13 (Instr.loadAt 40 (P0 b235 (j - 1))) (Instr.loadAt 40 (P0 b230 j)) 126 130 (U4 aj) (U4 ai) (by kernel_rfl) (by kernel_rfl) (by kernel_rfl) (run_load1 rfl (by simpa [Nat.add_assoc] using Rd.cell (own_rd aT (Go.Tw.encI_len _) (by decide)) aA av 0 _ rfl)) (run_load1 rfl (by simpa [Nat.add_assoc] using Rd.cell (own_rd aT (Go.Tw.encI_len _) (by decide)) ap ao 0 _ rfl)) ac (by kernel_rfl) (by kernel_rfl) (by kernel_rfl) (by kernel_rfl) (by decide) (by kernel_rfl) ?_
       refine WDi (NPb (NPt (NPt (NPb (NPb (NPt (NPt (NPb (NPt hN))))))))) 14 A xs.length c 131 .i64 (j : Int) b230 0 j 1 (by kernel_rfl) (by kernel_rfl) ap (by omega) (by omega) j (by first | (simp; done) | omega) ac ?_
       obtain ⟨dJ, cs, ct, aU, cu⟩ := stoE_run Tryz.prog (Go.Tw.encI_len _) cr 0 ap rfl aT j 0 (x := ai) ao aj [U4 aj] rfl 40 (U4 aj) (j) rfl rfl rfl (by first | rfl | simp [Nat.add_assoc])
       have aV := ac.trans ct (fun x_ hx_ => .inl hx_)
       refine WDu 15 cs aV ?_
       have c7 := own_count (Go.Tw.encI_len _) (by decide) aU
       obtain ⟨c0, bd⟩ := get_some (xs := L4.set j aj) (i := (j - 1)) (by omega)
       obtain ⟨b270, be⟩ := own_addr (by decide) (Go.Tw.encI_len _) aU bd
       refine WDi (NPb (NPt (NPt (NPb (NPb (NPt (NPt (NPb (NPt hN))))))))) 16 A xs.length c 132 .i64 ((j - 1 : Nat) : Int) b270 0 (j - 1) 1 (by kernel_rfl) (by kernel_rfl) be (by omega) (by omega) (j - 1) (by first | (simp; done) | omega) aV ?_
       obtain ⟨dK, cv, cw, cx, cy⟩ := stoE_run Tryz.prog (Go.Tw.encI_len _) cu 0 be rfl aU (j - 1) 0 (x := c0) bd ai [U4 ai] rfl 40 (U4 ai) ((j - 1)) rfl rfl rfl (by first | rfl | simp [Nat.add_assoc])
       have cz := aV.trans cw (fun x_ hx_ => .inl hx_)
       refine WDu 17 cv cz (WDd (QXb (QXn (ck _ _ (WCg (WLz 2 [(105, I6 (IntKind.i64.wrap ((j : Int) + 1)))] ?_))))))
       refine WLt (show (I6 (IntKind.i64.wrap ((j : Int) + 1)) : Value) = I6 ((j + 1 : Nat) : Int) from by rw [wrap_in_i64 _ (by omega) (by omega)] <;> first | rfl | (congr 1; done) | (congr 1; omega)) (WLq 1 [(10, I6 ((j + 1 : Nat) : Int))] (WLd rfl (QXn ?_)))
       have cA := cy.pick [] [0] rfl rfl
       refine fun a_ ha_ => cg _ _ _ ?_ ⟨j + 1, (L4.set j aj).set (j - 1) ai, rfl, rfl, cA, cx, ⟨by omega, by omega⟩, (set2_len _ _ _ _ _).trans hL4, by rw [← hsu]; exact (sup_go (by omega) ao av bv).symm⟩ a_ (ha_.weaken (sub_of ⟨rfl, rfl, rfl, rfl, rfl, rfl, trivial⟩))
       omega
     ·
      have cY : (b : Int) ≤ (j : Int) := by have q_ := of_decide_eq_false aQ; omega
      refine WCf rfl (WC.exit (QXe (QXe (QX.block_hit (QXb ?_)))))
      refine QXn (aC _ _ (WCg (WLz 2 [(16, I6 (IntKind.i64.wrap ((k : Int) + 1)))] (WLt (show (I6 (IntKind.i64.wrap ((k : Int) + 1)) : Value) = I6 ((k + 1 : Nat) : Int) from by rw [wrap_in_i64 _ (by omega) (by omega)] <;> first | rfl | (congr 1; done) | (congr 1; omega)) (WLq 1 [(8, I6 ((k + 1 : Nat) : Int))] (WLd rfl ?_))))))
      refine QXn ?_
      have cB := ba.pick [] [0] rfl rfl
      refine fun a_ ha_ => bg _ _ _ ?_ ⟨k + 1, i2, L4, rfl, rfl, cB, hrow4, by omega, ⟨by omega, by omega⟩, (own_count (Go.Tw.encI_len .u32) (by decide) hrow4), by rw [← hpi]; exact (show partialIns ltInt a b (5 - k) i (aOf L) = _ from by rw [pin_go (by omega) hss_ (by omega) (by omega), ← aSwp aB aE, ← hL1, ← hL2x]; unfold pin3; rw [if_pos (by omega), ← hsu, sup_stop1 (by omega)]).symm⟩ a_ (ha_.weaken (sub_of ⟨rfl, rfl, rfl, rfl, rfl, trivial⟩))
      omega
    ·
     have cX : ((b - i2 : Nat) : Int) < 2 := by have q_ := of_decide_eq_false aP; omega
     refine WCf rfl (WC.skip (QXb (QXn (aC _ _ (WCg (WLz 2 [(16, I6 (IntKind.i64.wrap ((k : Int) + 1)))] (WLt (show (I6 (IntKind.i64.wrap ((k : Int) + 1)) : Value) = I6 ((k + 1 : Nat) : Int) from by rw [wrap_in_i64 _ (by omega) (by omega)] <;> first | rfl | (congr 1; done) | (congr 1; omega)) ?_)))))))
     refine WLq 1 [(8, I6 ((k + 1 : Nat) : Int))] (WLd rfl (QXn ?_))
     have cC := a9.pick [] [0] rfl rfl
     refine fun a_ ha_ => bg _ _ _ ?_ ⟨k + 1, i2, L2, rfl, rfl, cC, hrow2, by omega, ⟨by omega, by omega⟩, (own_count (Go.Tw.encI_len .u32) (by decide) hrow2), by rw [← hpi]; exact (show partialIns ltInt a b (5 - k) i (aOf L) = _ from by rw [pin_go (by omega) hss_ (by omega) (by omega), ← aSwp aB aE, ← hL1, ← hL2x]; unfold pin3; rw [if_neg (by omega)]).symm⟩ a_ (ha_.weaken (sub_of ⟨rfl, rfl, rfl, rfl, rfl, trivial⟩))
     omega
 ·
  have c8 : (5 : Int) ≤ (k : Int) := by have q_ := of_decide_eq_false bh; omega
  refine WCf rfl (WC.exit (QXe (QXe (QX.block_hit (QXn (hK6 _ _ ?_))))))
  refine WCs (fun dL bf => WCg (WLq 1 [(6, .bool false)] (WLd rfl (QXn (bf _ _ (WC.ret ?_))))))
  refine (hret _ _ _ rfl ?_).1
  clear hN hret hret' bf aX aW hK8 hK6 hK4 hK2
  obtain rfl : k = 5 := by omega
  rw [pin_end] at hpi
  exact ⟨L, by rw [← hpi]; rfl, bw.fr, hrow, by rw [← hpi]⟩

theorem pins_n (A : Option Addr) (c n : Nat) (xs : List Int) (hn : xs.length = n) (a b : Nat) (w : World) (hown : w.ownsRow 0 40 1 (.slice A n c) n (xs.flatMap (Go.Tw.encI .u32))) (hlen : n ≤ 1099511627776) (hab : a < b) (hb : b ≤ n) : Calls Tryz.prog 102 #[.slice A n c, .int .i64 (a : Int), .int .i64 (b : Int)] w fun e w' => ∃ ys : List Int, e = .returned (.bool (partialInsertionSort ltInt (aOf xs) a b).2) ∧ Fr w w' (blk (.slice A n c)) ∧ w'.ownsRow 0 40 1 (.slice A n c) n (ys.flatMap (Go.Tw.encI .u32)) ∧ aOf ys = (partialInsertionSort ltInt (aOf xs) a b).1 := by subst hn; exact pins_ct A c xs a b w hown hlen hab hb
end Go.Proofs.YtfligklljkcbfaaGreatDoor
