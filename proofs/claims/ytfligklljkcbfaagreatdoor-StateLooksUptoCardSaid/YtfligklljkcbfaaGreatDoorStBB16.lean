/- Contracts of functions of the program, each proved by a walk through its code; conditions stand in the statements. -/
import Derived.Test.YtfligklljkcbfaaGreatDoorStBA16
import Derived.Sort.AssemblyPlain
namespace Go.Proofs.YtfligklljkcbfaaGreatDoor
set_option linter.unusedSimpArgs false
set_option linter.unusedVariables false
set_option linter.unusedSectionVars false
open Go Go.RowKit Go.Tw
set_option linter.unusedVariables false
set_option maxRecDepth 20000
open Go.Sort
theorem ins_n (A : Option Addr) (c n : Nat) (xs : List Int) (hn : xs.length = n) (a b : Nat) (w : World) (hown : w.ownsRow 0 40 1 (.slice A n c) n (xs.flatMap (Go.Tw.encI .u32))) (hlen : n ≤ 1099511627776) (hab : a ≤ b) (hb : b ≤ n) : Calls Tryz.prog 97 #[.slice A n c, .int .i64 (a : Int), .int .i64 (b : Int)] w fun e w' => ∃ ys : List Int, e = .returned (.tuple #[]) ∧ Fr w w' (blk (.slice A n c)) ∧ w'.ownsRow 0 40 1 (.slice A n c) n (ys.flatMap (Go.Tw.encI .u32)) ∧ aOf ys = insertionSort ltInt (aOf xs) a b := by subst hn; exact ins_ct A c xs a b w hown hlen hab hb
theorem rev_n (A : Option Addr) (c n : Nat) (xs : List Int) (hn : xs.length = n) (a b : Nat) (w : World) (hown : w.ownsRow 0 40 1 (.slice A n c) n (xs.flatMap (Go.Tw.encI .u32))) (hlen : n ≤ 1099511627776) (hab : a < b) (hb : b ≤ n) : Calls Tryz.prog 101 #[.slice A n c, .int .i64 (a : Int), .int .i64 (b : Int)] w fun e w' => ∃ ys : List Int, e = .returned (.tuple #[]) ∧ Fr w w' (blk (.slice A n c)) ∧ w'.ownsRow 0 40 1 (.slice A n c) n (ys.flatMap (Go.Tw.encI .u32)) ∧ aOf ys = reverseRange (aOf xs) a b := by subst hn; exact rev_ct A c xs a b w hown hlen hab hb
set_option maxHeartbeats 1000000 in
theorem sift_ct (A : Option Addr) (c : Nat) (xs : List Int) (lo hi f : Nat)  (w : World) (hown : w.ownsRow 0 40 1 (.slice A xs.length c) xs.length (xs.flatMap (Go.Tw.encI .u32))) (hlen : xs.length ≤ 1099511627776) (hlo : lo ≤ xs.length) (hfh : f + hi ≤ xs.length) : Calls Tryz.prog 134 #[.slice A xs.length c, I6 (lo : Int), I6 (hi : Int), I6 (f : Int)] w fun e w' => ∃ ys : List Int, e = .returned (.tuple #[]) ∧ Fr w w' (blk (.slice A xs.length c)) ∧ w'.ownsRow 0 40 1 (.slice A xs.length c) xs.length (ys.flatMap (Go.Tw.encI .u32)) ∧ aOf ys = siftDown ltInt hi f lo (aOf xs) := by
 refine enterD (n := 76) Tryz.func134 rfl rfl (Nat.le_of_ble_eq_true rfl) ?_
 intro Q0 hN hret hret'
 have hcc_ := own_le hown
 have hC := Cx.start1 w (own_lt hown)
 have hLs_ := own_count (Go.Tw.encI_len .u32) (by decide) hown
 refine WCs (fun K1 hK2 => WCg (WLz 2 [(8, I6 (lo : Int))] (WLd rfl (QXn (hK2 _ _ (WC.block (WC.loop (fun m_ E_ w_ => ∃ (r : Nat) (L : List Int), m_ = hi - r ∧ E_ = [(0, .slice A xs.length c), (1, I6 (lo : Int)), (2, I6 (hi : Int)), (3, I6 (f : Int)), (8, I6 (r : Int))] ∧ Cx w (blk (.slice A xs.length c)) w_ [] [blk (.slice A xs.length c)] ∧ World.ownsRow w_ 0 40 1 (.slice A xs.length c) xs.length (L.flatMap (Go.Tw.encI .u32)) ∧ (r ≤ xs.length ∧ L.length = xs.length ∧ siftDown ltInt hi f r (aOf L) = siftDown ltInt hi f lo (aOf xs))) ⟨_, _, ⟨lo, xs, rfl, rfl, hC, hown, hlo, rfl, rfl⟩, sub_of ⟨rfl, rfl, rfl, rfl, rfl, trivial⟩⟩ (fun m6 E_ w7 K3 hK4 hI5 => ?_))))))))
 obtain ⟨r, L, rfl, rfl, hC8, hrow, hr, hL, hsd⟩ := hI5
 refine WC.block (WCs (fun K9 bV => WCg (WLz 2 [(12, I6 (IntKind.i64.wrap (2 * (r : Int))))] (WLt (show (I6 (IntKind.i64.wrap (2 * (r : Int))) : Value) = I6 ((2 * r : Nat) : Int) from by rw [wrap_in_i64 _ (by omega) (by omega)]; first | rfl | (congr 1; done) | (congr 1; omega)) (WLq 1 [(13, I6 (IntKind.i64.wrap (((2 * r : Nat) : Int) + 1)))] ?_)))))
 refine WLt (show (I6 (IntKind.i64.wrap (((2 * r : Nat) : Int) + 1)) : Value) = I6 ((2 * r + 1 : Nat) : Int) from by rw [wrap_in_i64 _ (by omega) (by omega)]; first | rfl | (congr 1; done) | (congr 1; omega)) (WLq 1 [(9, I6 ((2 * r + 1 : Nat) : Int))] (WLd rfl (QXn (bV _ _ (WCs (fun cJ bW => WCs (fun cK bX => WCg (WLz 3 [(16, .bool (decide (((2 * r + 1 : Nat) : Int) ≥ (hi : Int))))] (WLd rfl (QXn (bX _ _ ?_)))))))))))
 refine WCa 16 (decide (((2 * r + 1 : Nat) : Int) ≥ (hi : Int))) rfl (fun a1 => ?_) (fun a1 => ?_)
 ·
  have cm : (hi : Int) ≤ ((2 * r + 1 : Nat) : Int) := by have q_ := of_decide_eq_true a1; omega
  refine WCt rfl (WC.exit (QXe (QX.block_miss (by decide) (QXe (QX.block_hit ?_)))))
  refine (hret _ _ _ rfl ?_).2
  exact ⟨L, rfl, hC8.fr, hrow, by rw [← hsd, sift_stop (by omega)]⟩
 ·
  have cm : ((2 * r + 1 : Nat) : Int) < (hi : Int) := by have q_ := of_decide_eq_false a1; omega
  refine WCf rfl (WC.skip (QXn (bW _ _ (WCs (fun cL a2 => WCs (fun cM bb => WC.drawC hC8 [] (by kernel_rfl) (fun cn bY bc aa => ?_)))))))
  have ap := own_fr hrow bY (by simp)
  refine WDx 2 [(0, 17, I6 ((2 * r + 1 : Nat) : Int)), (1, 18, I6 (IntKind.i64.wrap (((2 * r + 1 : Nat) : Int) + 1)))] aa (WD.recast (show (I6 (IntKind.i64.wrap (((2 * r + 1 : Nat) : Int) + 1)) : Value) = I6 ((2 * r + 2 : Nat) : Int) from by rw [wrap_in_i64 _ (by omega) (by omega)]; first | rfl | (congr 1; done) | (congr 1; omega)) (WDx 3 [(2, 19, I6 (hi : Int)), (3, 20, .bool (decide (((2 * r + 2 : Nat) : Int) < (hi : Int)))), (4, 21, .bool (decide (((2 * r + 2 : Nat) : Int) < (hi : Int))))] aa (WDa 21 (decide (((2 * r + 2 : Nat) : Int) < (hi : Int))) rfl (fun a3 => ?_) (fun a3 => ?_))))
  ·
   have co : ((2 * r + 2 : Nat) : Int) < (hi : Int) := by have q_ := of_decide_eq_true a3; omega
   refine WDx 4 [(5, 22, .slice A xs.length c), (6, 23, I6 (f : Int)), (7, 24, I6 ((2 * r + 1 : Nat) : Int)), (8, 25, I6 (IntKind.i64.wrap ((f : Int) + ((2 * r + 1 : Nat) : Int))))] aa (WD.recast (show (I6 (IntKind.i64.wrap ((f : Int) + ((2 * r + 1 : Nat) : Int))) : Value) = I6 ((f + (2 * r + 1) : Nat) : Int) from by rw [wrap_in_i64 _ (by omega) (by omega)]; first | rfl | (congr 1; done) | (congr 1; omega)) ?_)
   have cp := own_count (Go.Tw.encI_len _) (by decide) ap
   obtain ⟨aq, ar⟩ := get_some (xs := L) (i := (f + (2 * r + 1))) (by omega)
   obtain ⟨b28, aB⟩ := own_addr (by decide) (Go.Tw.encI_len _) ap ar
   refine WDi (NPt (NPt (NPb (NPt (NPb hN))))) 9 A xs.length c 26 .i64 ((f + (2 * r + 1) : Nat) : Int) b28 0 (f + (2 * r + 1)) 1 (by kernel_rfl) (by kernel_rfl) aB (by omega) (by omega) (f + (2 * r + 1)) (by first | (simp; done) | omega) aa (WDx 4 [(11, 28, .slice A xs.length c), (12, 29, I6 (f : Int)), (13, 30, I6 ((2 * r + 1 : Nat) : Int)), (14, 31, I6 (IntKind.i64.wrap ((f : Int) + ((2 * r + 1 : Nat) : Int))))] aa (WD.recast (show (I6 (IntKind.i64.wrap ((f : Int) + ((2 * r + 1 : Nat) : Int))) : Value) = I6 ((f + (2 * r + 1) : Nat) : Int) from by rw [wrap_in_i64 _ (by omega) (by omega)]; first | rfl | (congr 1; done) | (congr 1; omega)) (WDq 15 32 (I6 (IntKind.i64.wrap (((f + (2 * r + 1) : Nat) : Int) + 1))) aa (WD.recast (show (I6 (IntKind.i64.wrap (((f + (2 * r + 1) : Nat) : Int) + 1)) : Value) = I6 ((f + (2 * r + 2) : Nat) : Int) from by rw [wrap_in_i64 _ (by omega) (by omega)]; first | rfl | (congr 1; done) | (congr 1; omega)) ?_))))
   have cq := own_count (Go.Tw.encI_len _) (by decide) ap
   obtain ⟨au, av⟩ := get_some (xs := L) (i := (f + (2 * r + 2))) (by omega)
   obtain ⟨b33, aC⟩ := own_addr (by decide) (Go.Tw.encI_len _) ap av
   refine WDi (NPt (NPt (NPb (NPt (NPb hN))))) 16 A xs.length c 33 .i64 ((f + (2 * r + 2) : Nat) : Int) b33 0 (f + (2 * r + 2)) 1 (by kernel_rfl) (by kernel_rfl) aC (by omega) (by omega) (f + (2 * r + 2)) (by first | (simp; done) | omega) aa (WDm 10 40 (P0 b28 (f + (2 * r + 1))) (U4 aq) 27 (fun _ hS_ => run_load1 rfl (by simpa [Nat.add_assoc] using Rd.cell (own_rd (own_fr ap hS_ (by simp)) (Go.Tw.encI_len _) (by decide)) aB ar 0 _ rfl)) aa (WDm 17 40 (P0 b33 (f + (2 * r + 2))) (U4 au) 34 (fun _ hS_ => run_load1 rfl (by simpa [Nat.add_assoc] using Rd.cell (own_rd (own_fr ap hS_ (by simp)) (Go.Tw.encI_len _) (by decide)) aC av 0 _ rfl)) aa (WDc 18 (Less_ct aq au cn) ?_)))
   rintro _ cN ⟨rfl, a4⟩
   have bd := aa.trans a4 (by simp)
   refine ⟨_, rfl, bd, ?_⟩
   have be := bc.call a4
   have bf := own_fr ap a4 (by simp)
   refine WDq 19 36 (.bool (decide (aq < au))) bd (WDd (QXn (bb _ _ (WCa 36 (decide (aq < au)) rfl (fun aG => ?_) (fun aG => ?_)))))
   ·
    refine WCt rfl (WCg (WLz 2 [(38, I6 (IntKind.i64.wrap (((2 * r + 1 : Nat) : Int) + 1)))] (WLt (show (I6 (IntKind.i64.wrap (((2 * r + 1 : Nat) : Int) + 1)) : Value) = I6 ((2 * r + 2 : Nat) : Int) from by rw [wrap_in_i64 _ (by omega) (by omega)]; first | rfl | (congr 1; done) | (congr 1; omega)) (WLq 1 [(9, I6 ((2 * r + 2 : Nat) : Int))] (WLd rfl (QXn (a2 _ _ (WCs (fun cO bZ => ?_)))))))))
    refine WCs (fun cP b0 => WC.drawC be [] (by kernel_rfl) (fun cr b1 b2 ag => ?_))
    have aH := own_fr bf b1 (by simp)
    refine WDx 4 [(0, 39, .slice A xs.length c), (1, 40, I6 (f : Int)), (2, 41, I6 (r : Int)), (3, 42, I6 (IntKind.i64.wrap ((f : Int) + (r : Int))))] ag (WD.recast (show (I6 (IntKind.i64.wrap ((f : Int) + (r : Int))) : Value) = I6 ((f + r : Nat) : Int) from by rw [wrap_in_i64 _ (by omega) (by omega)]; first | rfl | (congr 1; done) | (congr 1; omega)) ?_)
    have cs := own_count (Go.Tw.encI_len _) (by decide) aH
    obtain ⟨aD, aE⟩ := get_some (xs := L) (i := (f + r)) (by omega)
    obtain ⟨b53, aF⟩ := own_addr (by decide) (Go.Tw.encI_len _) aH aE
    refine WDi (NPt (NPt (NPb (NPt (NPb hN))))) 4 A xs.length c 43 .i64 ((f + r : Nat) : Int) b53 0 (f + r) 1 (by kernel_rfl) (by kernel_rfl) aF (by omega) (by omega) (f + r) (by first | (simp; done) | omega) ag (WDx 4 [(6, 45, .slice A xs.length c), (7, 46, I6 (f : Int)), (8, 47, I6 ((2 * r + 2 : Nat) : Int)), (9, 48, I6 (IntKind.i64.wrap ((f : Int) + ((2 * r + 2 : Nat) : Int))))] ag (WD.recast (show (I6 (IntKind.i64.wrap ((f : Int) + ((2 * r + 2 : Nat) : Int))) : Value) = I6 ((f + (2 * r + 2) : Nat) : Int) from by rw [wrap_in_i64 _ (by omega) (by omega)]; first | rfl | (congr 1; done) | (congr 1; omega)) (WDi (NPt (NPt (NPb (NPt (NPb hN))))) 10 A xs.length c 49 .i64 ((f + (2 * r + 2) : Nat) : Int) b33 0 (f + (2 * r + 2)) 1 (by kernel_rfl) (by kernel_rfl) aC (by omega) (by omega) (f + (2 * r + 2)) (by first | (simp; done) | omega) ag (WDm 5 40 (P0 b53 (f + r)) (U4 aD) 44 (fun _ hS_ => run_load1 rfl (by simpa [Nat.add_assoc] using Rd.cell (own_rd (own_fr aH hS_ (by simp)) (Go.Tw.encI_len _) (by decide)) aF aE 0 _ rfl)) ag (WDm 11 40 (P0 b33 (f + (2 * r + 2))) (U4 au) 50 (fun _ hS_ => run_load1 rfl (by simpa [Nat.add_assoc] using Rd.cell (own_rd (own_fr aH hS_ (by simp)) (Go.Tw.encI_len _) (by decide)) aC av 0 _ rfl)) ag ?_)))))
    refine WDc 12 (Less_ct aD au cr) ?_
    rintro _ cQ ⟨rfl, a5⟩
    have bg := ag.trans a5 (by simp)
    refine ⟨_, rfl, bg, ?_⟩
    have bh := b2.call a5
    have bi := own_fr aH a5 (by simp)
    refine WDq 13 52 (.bool (!(decide (aD < au)))) bg (WDd (QXn (b0 _ _ (WCa 52 (!(decide (aD < au))) rfl (fun aI => ?_) (fun aI => ?_)))))
    ·
     have b3 : (decide (aD < au)) = false := by first | (simpa only [Bool.not_eq_true', Bool.not_eq_false'] using aI) | simpa using aI
     refine WCt rfl (WC.ret (QXr (QXk (QXr (QXk ?_)))))
     refine (hret _ _ _ rfl ?_).1
     exact ⟨L, rfl, bh.fr, bi, by rw [← hsd, sift_c2 (by omega) ar av aE aG, if_neg (by rw [b3]; simp)]⟩
    ·
     have b3 : (decide (aD < au)) = true := by first | (simpa only [Bool.not_eq_true', Bool.not_eq_false'] using aI) | simpa using aI
     refine WCf rfl (WC.skip (QXn (bZ _ _ (WCs (fun cR b4 => WC.drawC bh (blk (.slice A xs.length c)) (by kernel_rfl) (fun cS b5 b6 ad => ?_))))))
     have a6 := own_fr bi b5 (by simp)
     refine WDx 4 [(0, 53, .slice A xs.length c), (1, 54, I6 (f : Int)), (2, 55, I6 (r : Int)), (3, 56, I6 (IntKind.i64.wrap ((f : Int) + (r : Int))))] ad (WD.recast (show (I6 (IntKind.i64.wrap ((f : Int) + (r : Int))) : Value) = I6 ((f + r : Nat) : Int) from by rw [wrap_in_i64 _ (by omega) (by omega)]; first | rfl | (congr 1; done) | (congr 1; omega)) (WDx 4 [(4, 57, .slice A xs.length c), (5, 58, I6 (f : Int)), (6, 59, I6 ((2 * r + 2 : Nat) : Int)), (7, 60, I6 (IntKind.i64.wrap ((f : Int) + ((2 * r + 2 : Nat) : Int))))] ad (WD.recast (show (I6 (IntKind.i64.wrap ((f : Int) + ((2 * r + 2 : Nat) : Int))) : Value) = I6 ((f + (2 * r + 2) : Nat) : Int) from by rw [wrap_in_i64 _ (by omega) (by omega)]; first | rfl | (congr 1; done) | (congr 1; omega)) (WDx 4 [(8, 61, .slice A xs.length c), (9, 62, I6 (f : Int)), (10, 63, I6 ((2 * r + 2 : Nat) : Int)), (11, 64, I6 (IntKind.i64.wrap ((f : Int) + ((2 * r + 2 : Nat) : Int))))] ad (WD.recast (show (I6 (IntKind.i64.wrap ((f : Int) + ((2 * r + 2 : Nat) : Int))) : Value) = I6 ((f + (2 * r + 2) : Nat) : Int) from by rw [wrap_in_i64 _ (by omega) (by omega)]; first | rfl | (congr 1; done) | (congr 1; omega)) ?_)))))
     refine WDi (NPt (NPb (NPt (NPb hN)))) 12 A xs.length c 65 .i64 ((f + (2 * r + 2) : Nat) : Int) b33 0 (f + (2 * r + 2)) 1 (by kernel_rfl) (by kernel_rfl) aC (by omega) (by omega) (f + (2 * r + 2)) (by first | (simp; done) | omega) ad (WDx 4 [(14, 67, .slice A xs.length c), (15, 68, I6 (f : Int)), (16, 69, I6 (r : Int)), (17, 70, I6 (IntKind.i64.wrap ((f : Int) + (r : Int))))] ad (WD.recast (show (I6 (IntKind.i64.wrap ((f : Int) + (r : Int))) : Value) = I6 ((f + r : Nat) : Int) from by rw [wrap_in_i64 _ (by omega) (by omega)]; first | rfl | (congr 1; done) | (congr 1; omega)) (WDi (NPt (NPb (NPt (NPb hN)))) 18 A xs.length c 71 .i64 ((f + r : Nat) : Int) b53 0 (f + r) 1 (by kernel_rfl) (by kernel_rfl) aF (by omega) (by omega) (f + r) (by first | (simp; done) | omega) ad ?_)))
     refine two_loads 13 19 (Instr.loadAt 40 (P0 b33 (f + (2 * r + 2)))) (Instr.loadAt 40 (P0 b53 (f + r))) 66 72 (U4 au) (U4 aD) (by kernel_rfl) (by kernel_rfl) (by kernel_rfl) (run_load1 rfl (by simpa [Nat.add_assoc] using Rd.cell (own_rd a6 (Go.Tw.encI_len _) (by decide)) aC av 0 _ rfl)) (run_load1 rfl (by simpa [Nat.add_assoc] using Rd.cell (own_rd a6 (Go.Tw.encI_len _) (by decide)) aF aE 0 _ rfl)) ad (by kernel_rfl) (by kernel_rfl) (by kernel_rfl) (by kernel_rfl) (by decide) (by kernel_rfl) ?_
     refine WDi (NPt (NPb (NPt (NPb hN)))) 20 A xs.length c 73 .i64 ((f + r : Nat) : Int) b53 0 (f + r) 1 (by kernel_rfl) (by kernel_rfl) aF (by omega) (by omega) (f + r) (by first | (simp; done) | omega) ad ?_
     obtain ⟨cT, b7, b8, a7, b9⟩ := stoE_run Tryz.prog (Go.Tw.encI_len _) b6 0 aF rfl a6 (f + r) 0 (x := aD) aE au [U4 au] rfl 40 (U4 au) ((f + r)) rfl rfl rfl (by first | rfl | simp [Nat.add_assoc])
     have a8 := ad.trans b8 (fun x_ hx_ => .inl hx_)
     refine WDu 21 b7 a8 ?_
     have ct := own_count (Go.Tw.encI_len _) (by decide) a7
     obtain ⟨cu, bj⟩ := get_some (xs := L.set (f + r) au) (i := (f + (2 * r + 2))) (by omega)
     obtain ⟨b93, bk⟩ := own_addr (by decide) (Go.Tw.encI_len _) a7 bj
     refine WDi (NPt (NPb (NPt (NPb hN)))) 22 A xs.length c 74 .i64 ((f + (2 * r + 2) : Nat) : Int) b93 0 (f + (2 * r + 2)) 1 (by kernel_rfl) (by kernel_rfl) bk (by omega) (by omega) (f + (2 * r + 2)) (by first | (simp; done) | omega) a8 ?_
     obtain ⟨cU, ca, cb, bl, cc⟩ := stoE_run Tryz.prog (Go.Tw.encI_len _) b9 0 bk rfl a7 (f + (2 * r + 2)) 0 (x := cu) bj aD [U4 aD] rfl 40 (U4 aD) ((f + (2 * r + 2))) rfl rfl rfl (by first | rfl | simp [Nat.add_assoc])
     have bm := a8.trans cb (fun x_ hx_ => .inl hx_)
     refine WDu 23 ca bm (WDd (QXn (b4 _ _ (WCg (WLz 2 [(8, I6 ((2 * r + 2 : Nat) : Int))] (WLd rfl ?_))))))
     refine QXb (QXn ?_)
     have bn := cc.pick [] [0] rfl rfl
     refine fun a_ ha_ => hK4 _ _ _ ?_ ⟨2 * r + 2, (L.set (f + r) au).set (f + (2 * r + 2)) aD, rfl, rfl, bn, bl, by omega, (set2_len _ _ _ _ _).trans hL, by rw [← hsd, sift_c2 (by omega) ar av aE aG, if_pos b3]⟩ a_ (ha_.weaken (sub_of ⟨rfl, rfl, rfl, rfl, rfl, trivial⟩))
     omega
   ·
    refine WCf rfl (WC.skip (QXn (a2 _ _ (WCs (fun cv bo => WCs (fun cw bp => WC.drawC be [] (by kernel_rfl) (fun cd bq br ae => ?_)))))))
    have aw := own_fr bf bq (by simp)
    refine WDx 4 [(0, 39, .slice A xs.length c), (1, 40, I6 (f : Int)), (2, 41, I6 (r : Int)), (3, 42, I6 (IntKind.i64.wrap ((f : Int) + (r : Int))))] ae (WD.recast (show (I6 (IntKind.i64.wrap ((f : Int) + (r : Int))) : Value) = I6 ((f + r : Nat) : Int) from by rw [wrap_in_i64 _ (by omega) (by omega)]; first | rfl | (congr 1; done) | (congr 1; omega)) ?_)
    have ch := own_count (Go.Tw.encI_len _) (by decide) aw
    obtain ⟨ah, al⟩ := get_some (xs := L) (i := (f + r)) (by omega)
    obtain ⟨b114, am⟩ := own_addr (by decide) (Go.Tw.encI_len _) aw al
    refine WDi (NPt (NPt (NPb (NPt (NPb hN))))) 4 A xs.length c 43 .i64 ((f + r : Nat) : Int) b114 0 (f + r) 1 (by kernel_rfl) (by kernel_rfl) am (by omega) (by omega) (f + r) (by first | (simp; done) | omega) ae (WDx 4 [(6, 45, .slice A xs.length c), (7, 46, I6 (f : Int)), (8, 47, I6 ((2 * r + 1 : Nat) : Int)), (9, 48, I6 (IntKind.i64.wrap ((f : Int) + ((2 * r + 1 : Nat) : Int))))] ae (WD.recast (show (I6 (IntKind.i64.wrap ((f : Int) + ((2 * r + 1 : Nat) : Int))) : Value) = I6 ((f + (2 * r + 1) : Nat) : Int) from by rw [wrap_in_i64 _ (by omega) (by omega)]; first | rfl | (congr 1; done) | (congr 1; omega)) (WDi (NPt (NPt (NPb (NPt (NPb hN))))) 10 A xs.length c 49 .i64 ((f + (2 * r + 1) : Nat) : Int) b28 0 (f + (2 * r + 1)) 1 (by kernel_rfl) (by kernel_rfl) aB (by omega) (by omega) (f + (2 * r + 1)) (by first | (simp; done) | omega) ae (WDm 5 40 (P0 b114 (f + r)) (U4 ah) 44 (fun _ hS_ => run_load1 rfl (by simpa [Nat.add_assoc] using Rd.cell (own_rd (own_fr aw hS_ (by simp)) (Go.Tw.encI_len _) (by decide)) am al 0 _ rfl)) ae (WDm 11 40 (P0 b28 (f + (2 * r + 1))) (U4 aq) 50 (fun _ hS_ => run_load1 rfl (by simpa [Nat.add_assoc] using Rd.cell (own_rd (own_fr aw hS_ (by simp)) (Go.Tw.encI_len _) (by decide)) aB ar 0 _ rfl)) ae ?_)))))
    refine WDc 12 (Less_ct ah aq cd) ?_
    rintro _ cx ⟨rfl, aJ⟩
    have aR := ae.trans aJ (by simp)
    refine ⟨_, rfl, aR, ?_⟩
    have aS := br.call aJ
    have aT := own_fr aw aJ (by simp)
    refine WDq 13 52 (.bool (!(decide (ah < aq)))) aR (WDd (QXn (bp _ _ (WCa 52 (!(decide (ah < aq))) rfl (fun ax => ?_) (fun ax => ?_)))))
    ·
     have a9 : (decide (ah < aq)) = false := by first | (simpa only [Bool.not_eq_true', Bool.not_eq_false'] using ax) | simpa using ax
     refine WCt rfl (WC.ret (QXr (QXk (QXr (QXk ?_)))))
     refine (hret _ _ _ rfl ?_).1
     exact ⟨L, rfl, aS.fr, aT, by rw [← hsd, sift_c1 (by omega) ar al (fun _ x_ hx_ => by rw [av] at hx_; cases hx_; exact aG) (by omega), if_neg (by rw [a9]; simp)]⟩
    ·
     have a9 : (decide (ah < aq)) = true := by first | (simpa only [Bool.not_eq_true', Bool.not_eq_false'] using ax) | simpa using ax
     refine WCf rfl (WC.skip (QXn (bo _ _ (WCs (fun cy bs => WC.drawC aS (blk (.slice A xs.length c)) (by kernel_rfl) (fun cz bt bu ab => ?_))))))
     have aK := own_fr aT bt (by simp)
     refine WDx 4 [(0, 53, .slice A xs.length c), (1, 54, I6 (f : Int)), (2, 55, I6 (r : Int)), (3, 56, I6 (IntKind.i64.wrap ((f : Int) + (r : Int))))] ab (WD.recast (show (I6 (IntKind.i64.wrap ((f : Int) + (r : Int))) : Value) = I6 ((f + r : Nat) : Int) from by rw [wrap_in_i64 _ (by omega) (by omega)]; first | rfl | (congr 1; done) | (congr 1; omega)) (WDx 4 [(4, 57, .slice A xs.length c), (5, 58, I6 (f : Int)), (6, 59, I6 ((2 * r + 1 : Nat) : Int)), (7, 60, I6 (IntKind.i64.wrap ((f : Int) + ((2 * r + 1 : Nat) : Int))))] ab (WD.recast (show (I6 (IntKind.i64.wrap ((f : Int) + ((2 * r + 1 : Nat) : Int))) : Value) = I6 ((f + (2 * r + 1) : Nat) : Int) from by rw [wrap_in_i64 _ (by omega) (by omega)]; first | rfl | (congr 1; done) | (congr 1; omega)) (WDx 4 [(8, 61, .slice A xs.length c), (9, 62, I6 (f : Int)), (10, 63, I6 ((2 * r + 1 : Nat) : Int)), (11, 64, I6 (IntKind.i64.wrap ((f : Int) + ((2 * r + 1 : Nat) : Int))))] ab (WD.recast (show (I6 (IntKind.i64.wrap ((f : Int) + ((2 * r + 1 : Nat) : Int))) : Value) = I6 ((f + (2 * r + 1) : Nat) : Int) from by rw [wrap_in_i64 _ (by omega) (by omega)]; first | rfl | (congr 1; done) | (congr 1; omega)) ?_)))))
     refine WDi (NPt (NPb (NPt (NPb hN)))) 12 A xs.length c 65 .i64 ((f + (2 * r + 1) : Nat) : Int) b28 0 (f + (2 * r + 1)) 1 (by kernel_rfl) (by kernel_rfl) aB (by omega) (by omega) (f + (2 * r + 1)) (by first | (simp; done) | omega) ab (WDx 4 [(14, 67, .slice A xs.length c), (15, 68, I6 (f : Int)), (16, 69, I6 (r : Int)), (17, 70, I6 (IntKind.i64.wrap ((f : Int) + (r : Int))))] ab (WD.recast (show (I6 (IntKind.i64.wrap ((f : Int) + (r : Int))) : Value) = I6 ((f + r : Nat) : Int) from by rw [wrap_in_i64 _ (by omega) (by omega)]; first | rfl | (congr 1; done) | (congr 1; omega)) (WDi (NPt (NPb (NPt (NPb hN)))) 18 A xs.length c 71 .i64 ((f + r : Nat) : Int) b114 0 (f + r) 1 (by kernel_rfl) (by kernel_rfl) am (by omega) (by omega) (f + r) (by first | (simp; done) | omega) ab ?_)))
     refine two_loads 13 19 (Instr.loadAt 40 (P0 b28 (f + (2 * r + 1)))) (Instr.loadAt 40 (P0 b114 (f + r))) 66 72 (U4 aq) (U4 ah) (by kernel_rfl) (by kernel_rfl) (by kernel_rfl) (run_load1 rfl (by simpa [Nat.add_assoc] using Rd.cell (own_rd aK (Go.Tw.encI_len _) (by decide)) aB ar 0 _ rfl)) (run_load1 rfl (by simpa [Nat.add_assoc] using Rd.cell (own_rd aK (Go.Tw.encI_len _) (by decide)) am al 0 _ rfl)) ab (by kernel_rfl) (by kernel_rfl) (by kernel_rfl) (by kernel_rfl) (by decide) (by kernel_rfl) ?_
     refine WDi (NPt (NPb (NPt (NPb hN)))) 20 A xs.length c 73 .i64 ((f + r : Nat) : Int) b114 0 (f + r) 1 (by kernel_rfl) (by kernel_rfl) am (by omega) (by omega) (f + r) (by first | (simp; done) | omega) ab ?_
     obtain ⟨cA, bv, bw, aL, bx⟩ := stoE_run Tryz.prog (Go.Tw.encI_len _) bu 0 am rfl aK (f + r) 0 (x := ah) al aq [U4 aq] rfl 40 (U4 aq) ((f + r)) rfl rfl rfl (by first | rfl | simp [Nat.add_assoc])
     have aM := ab.trans bw (fun x_ hx_ => .inl hx_)
     refine WDu 21 bv aM ?_
     have ci := own_count (Go.Tw.encI_len _) (by decide) aL
     obtain ⟨ce, aU⟩ := get_some (xs := L.set (f + r) aq) (i := (f + (2 * r + 1))) (by omega)
     obtain ⟨b154, aV⟩ := own_addr (by decide) (Go.Tw.encI_len _) aL aU
     refine WDi (NPt (NPb (NPt (NPb hN)))) 22 A xs.length c 74 .i64 ((f + (2 * r + 1) : Nat) : Int) b154 0 (f + (2 * r + 1)) 1 (by kernel_rfl) (by kernel_rfl) aV (by omega) (by omega) (f + (2 * r + 1)) (by first | (simp; done) | omega) aM ?_
     obtain ⟨cB, bz, bA, bB, bC⟩ := stoE_run Tryz.prog (Go.Tw.encI_len _) bx 0 aV rfl aL (f + (2 * r + 1)) 0 (x := ce) aU ah [U4 ah] rfl 40 (U4 ah) ((f + (2 * r + 1))) rfl rfl rfl (by first | rfl | simp [Nat.add_assoc])
     have bD := aM.trans bA (fun x_ hx_ => .inl hx_)
     refine WDu 23 bz bD (WDd (QXn (bs _ _ (WCg (WLz 2 [(8, I6 ((2 * r + 1 : Nat) : Int))] (WLd rfl ?_))))))
     refine QXb (QXn ?_)
     have bE := bC.pick [] [0] rfl rfl
     refine fun a_ ha_ => hK4 _ _ _ ?_ ⟨2 * r + 1, (L.set (f + r) aq).set (f + (2 * r + 1)) ah, rfl, rfl, bE, bB, by omega, (set2_len _ _ _ _ _).trans hL, by rw [← hsd, sift_c1 (by omega) ar al (fun _ x_ hx_ => by rw [av] at hx_; cases hx_; exact aG) (by omega), if_pos a9]⟩ a_ (ha_.weaken (sub_of ⟨rfl, rfl, rfl, rfl, rfl, trivial⟩))
     omega
  ·
   have co : (hi : Int) ≤ ((2 * r + 2 : Nat) : Int) := by have q_ := of_decide_eq_false a3; omega
   refine WDx 15 [(5, 22, undef), (6, 23, undef), (7, 24, undef), (8, 25, undef), (9, 26, undef), (10, 27, undef), (11, 28, undef), (12, 29, undef), (13, 30, undef), (14, 31, undef), (15, 32, undef), (16, 33, undef), (17, 34, undef), (18, 35, undef), (19, 36, .bool false)] aa (WDd (QXn (bb _ _ (WCf rfl (WC.skip (QXn (a2 _ _ (WCs (fun cC bF => WCs (fun cD bG => ?_))))))))))
   refine WC.drawC bc [] (by kernel_rfl) (fun cf bH bI af => ?_)
   have ak := own_fr ap bH (by simp)
   refine WDx 4 [(0, 39, .slice A xs.length c), (1, 40, I6 (f : Int)), (2, 41, I6 (r : Int)), (3, 42, I6 (IntKind.i64.wrap ((f : Int) + (r : Int))))] af (WD.recast (show (I6 (IntKind.i64.wrap ((f : Int) + (r : Int))) : Value) = I6 ((f + r : Nat) : Int) from by rw [wrap_in_i64 _ (by omega) (by omega)]; first | rfl | (congr 1; done) | (congr 1; omega)) ?_)
   have cj := own_count (Go.Tw.encI_len _) (by decide) ak
   obtain ⟨ai, an⟩ := get_some (xs := L) (i := (f + r)) (by omega)
   obtain ⟨b175, ao⟩ := own_addr (by decide) (Go.Tw.encI_len _) ak an
   refine WDi (NPt (NPt (NPb (NPt (NPb hN))))) 4 A xs.length c 43 .i64 ((f + r : Nat) : Int) b175 0 (f + r) 1 (by kernel_rfl) (by kernel_rfl) ao (by omega) (by omega) (f + r) (by first | (simp; done) | omega) af (WDx 4 [(6, 45, .slice A xs.length c), (7, 46, I6 (f : Int)), (8, 47, I6 ((2 * r + 1 : Nat) : Int)), (9, 48, I6 (IntKind.i64.wrap ((f : Int) + ((2 * r + 1 : Nat) : Int))))] af (WD.recast (show (I6 (IntKind.i64.wrap ((f : Int) + ((2 * r + 1 : Nat) : Int))) : Value) = I6 ((f + (2 * r + 1) : Nat) : Int) from by rw [wrap_in_i64 _ (by omega) (by omega)]; first | rfl | (congr 1; done) | (congr 1; omega)) ?_))
   have ck := own_count (Go.Tw.encI_len _) (by decide) ak
   obtain ⟨aj, ay⟩ := get_some (xs := L) (i := (f + (2 * r + 1))) (by omega)
   obtain ⟨b180, aA⟩ := own_addr (by decide) (Go.Tw.encI_len _) ak ay
   refine WDi (NPt (NPt (NPb (NPt (NPb hN))))) 10 A xs.length c 49 .i64 ((f + (2 * r + 1) : Nat) : Int) b180 0 (f + (2 * r + 1)) 1 (by kernel_rfl) (by kernel_rfl) aA (by omega) (by omega) (f + (2 * r + 1)) (by first | (simp; done) | omega) af (WDm 5 40 (P0 b175 (f + r)) (U4 ai) 44 (fun _ hS_ => run_load1 rfl (by simpa [Nat.add_assoc] using Rd.cell (own_rd (own_fr ak hS_ (by simp)) (Go.Tw.encI_len _) (by decide)) ao an 0 _ rfl)) af (WDm 11 40 (P0 b180 (f + (2 * r + 1))) (U4 aj) 50 (fun _ hS_ => run_load1 rfl (by simpa [Nat.add_assoc] using Rd.cell (own_rd (own_fr ak hS_ (by simp)) (Go.Tw.encI_len _) (by decide)) aA ay 0 _ rfl)) af (WDc 12 (Less_ct ai aj cf) ?_)))
   rintro _ cE ⟨rfl, aN⟩
   have aW := af.trans aN (by simp)
   refine ⟨_, rfl, aW, ?_⟩
   have aX := bI.call aN
   have aY := own_fr ak aN (by simp)
   refine WDq 13 52 (.bool (!(decide (ai < aj)))) aW (WDd (QXn (bG _ _ (WCa 52 (!(decide (ai < aj))) rfl (fun az => ?_) (fun az => ?_)))))
   ·
    have ba : (decide (ai < aj)) = false := by first | (simpa only [Bool.not_eq_true', Bool.not_eq_false'] using az) | simpa using az
    refine WCt rfl (WC.ret (QXr (QXk (QXr (QXk ?_)))))
    refine (hret _ _ _ rfl ?_).1
    exact ⟨L, rfl, aX.fr, aY, by rw [← hsd, sift_c1 (by omega) ay an (fun h_ => by omega) (by omega), if_neg (by rw [ba]; simp)]⟩
   ·
    have ba : (decide (ai < aj)) = true := by first | (simpa only [Bool.not_eq_true', Bool.not_eq_false'] using az) | simpa using az
    refine WCf rfl (WC.skip (QXn (bF _ _ (WCs (fun cF bJ => WC.drawC aX (blk (.slice A xs.length c)) (by kernel_rfl) (fun cG bK bL ac => ?_))))))
    have aO := own_fr aY bK (by simp)
    refine WDx 4 [(0, 53, .slice A xs.length c), (1, 54, I6 (f : Int)), (2, 55, I6 (r : Int)), (3, 56, I6 (IntKind.i64.wrap ((f : Int) + (r : Int))))] ac (WD.recast (show (I6 (IntKind.i64.wrap ((f : Int) + (r : Int))) : Value) = I6 ((f + r : Nat) : Int) from by rw [wrap_in_i64 _ (by omega) (by omega)]; first | rfl | (congr 1; done) | (congr 1; omega)) (WDx 4 [(4, 57, .slice A xs.length c), (5, 58, I6 (f : Int)), (6, 59, I6 ((2 * r + 1 : Nat) : Int)), (7, 60, I6 (IntKind.i64.wrap ((f : Int) + ((2 * r + 1 : Nat) : Int))))] ac (WD.recast (show (I6 (IntKind.i64.wrap ((f : Int) + ((2 * r + 1 : Nat) : Int))) : Value) = I6 ((f + (2 * r + 1) : Nat) : Int) from by rw [wrap_in_i64 _ (by omega) (by omega)]; first | rfl | (congr 1; done) | (congr 1; omega)) (WDx 4 [(8, 61, .slice A xs.length c), (9, 62, I6 (f : Int)), (10, 63, I6 ((2 * r + 1 : Nat) : Int)), (11, 64, I6 (IntKind.i64.wrap ((f : Int) + ((2 * r + 1 : Nat) : Int))))] ac (WD.recast (show (I6 (IntKind.i64.wrap ((f : Int) + ((2 * r + 1 : Nat) : Int))) : Value) = I6 ((f + (2 * r + 1) : Nat) : Int) from by rw [wrap_in_i64 _ (by omega) (by omega)]; first | rfl | (congr 1; done) | (congr 1; omega)) ?_)))))
    refine WDi (NPt (NPb (NPt (NPb hN)))) 12 A xs.length c 65 .i64 ((f + (2 * r + 1) : Nat) : Int) b180 0 (f + (2 * r + 1)) 1 (by kernel_rfl) (by kernel_rfl) aA (by omega) (by omega) (f + (2 * r + 1)) (by first | (simp; done) | omega) ac (WDx 4 [(14, 67, .slice A xs.length c), (15, 68, I6 (f : Int)), (16, 69, I6 (r : Int)), (17, 70, I6 (IntKind.i64.wrap ((f : Int) + (r : Int))))] ac (WD.recast (show (I6 (IntKind.i64.wrap ((f : Int) + (r : Int))) : Value) = I6 ((f + r : Nat) : Int) from by rw [wrap_in_i64 _ (by omega) (by omega)]; first | rfl | (congr 1; done) | (congr 1; omega)) (WDi (NPt (NPb (NPt (NPb hN)))) 18 A xs.length c 71 .i64 ((f + r : Nat) : Int) b175 0 (f + r) 1 (by kernel_rfl) (by kernel_rfl) ao (by omega) (by omega) (f + r) (by first | (simp; done) | omega) ac ?_)))
    refine two_loads 13 19 (Instr.loadAt 40 (P0 b180 (f + (2 * r + 1)))) (Instr.loadAt 40 (P0 b175 (f + r))) 66 72 (U4 aj) (U4 ai) (by kernel_rfl) (by kernel_rfl) (by kernel_rfl) (run_load1 rfl (by simpa [Nat.add_assoc] using Rd.cell (own_rd aO (Go.Tw.encI_len _) (by decide)) aA ay 0 _ rfl)) (run_load1 rfl (by simpa [Nat.add_assoc] using Rd.cell (own_rd aO (Go.Tw.encI_len _) (by decide)) ao an 0 _ rfl)) ac (by kernel_rfl) (by kernel_rfl) (by kernel_rfl) (by kernel_rfl) (by decide) (by kernel_rfl) ?_
    refine WDi (NPt (NPb (NPt (NPb hN)))) 20 A xs.length c 73 .i64 ((f + r : Nat) : Int) b175 0 (f + r) 1 (by kernel_rfl) (by kernel_rfl) ao (by omega) (by omega) (f + r) (by first | (simp; done) | omega) ac ?_
    obtain ⟨cH, bM, bN, aP, bO⟩ := stoE_run Tryz.prog (Go.Tw.encI_len _) bL 0 ao rfl aO (f + r) 0 (x := ai) an aj [U4 aj] rfl 40 (U4 aj) ((f + r)) rfl rfl rfl (by first | rfl | simp [Nat.add_assoc])
    have aQ := ac.trans bN (fun x_ hx_ => .inl hx_)
    refine WDu 21 bM aQ ?_
    have cl := own_count (Go.Tw.encI_len _) (by decide) aP
    obtain ⟨cg, aZ⟩ := get_some (xs := L.set (f + r) aj) (i := (f + (2 * r + 1))) (by omega)
    obtain ⟨b216, a0⟩ := own_addr (by decide) (Go.Tw.encI_len _) aP aZ
    refine WDi (NPt (NPb (NPt (NPb hN)))) 22 A xs.length c 74 .i64 ((f + (2 * r + 1) : Nat) : Int) b216 0 (f + (2 * r + 1)) 1 (by kernel_rfl) (by kernel_rfl) a0 (by omega) (by omega) (f + (2 * r + 1)) (by first | (simp; done) | omega) aQ ?_
    obtain ⟨cI, bP, bQ, bR, bS⟩ := stoE_run Tryz.prog (Go.Tw.encI_len _) bO 0 a0 rfl aP (f + (2 * r + 1)) 0 (x := cg) aZ ai [U4 ai] rfl 40 (U4 ai) ((f + (2 * r + 1))) rfl rfl rfl (by first | rfl | simp [Nat.add_assoc])
    have bT := aQ.trans bQ (fun x_ hx_ => .inl hx_)
    refine WDu 23 bP bT (WDd (QXn (bJ _ _ (WCg (WLz 2 [(8, I6 ((2 * r + 1 : Nat) : Int))] (WLd rfl ?_))))))
    refine QXb (QXn ?_)
    have bU := bS.pick [] [0] rfl rfl
    refine fun a_ ha_ => hK4 _ _ _ ?_ ⟨2 * r + 1, (L.set (f + r) aj).set (f + (2 * r + 1)) ai, rfl, rfl, bU, bR, by omega, (set2_len _ _ _ _ _).trans hL, by rw [← hsd, sift_c1 (by omega) ay an (fun h_ => by omega) (by omega), if_pos ba]⟩ a_ (ha_.weaken (sub_of ⟨rfl, rfl, rfl, rfl, rfl, trivial⟩))
    omega

theorem sift_n (A : Option Addr) (c n : Nat) (xs : List Int) (hn : xs.length = n) (lo hi f : Nat) (w : World) (hown : w.ownsRow 0 40 1 (.slice A n c) n (xs.flatMap (Go.Tw.encI .u32))) (hlen : n ≤ 1099511627776) (hlo : lo ≤ n) (hfh : f + hi ≤ n) : Calls Tryz.prog 134 #[.slice A n c, .int .i64 (lo : Int), .int .i64 (hi : Int), .int .i64 (f : Int)] w fun e w' => ∃ ys : List Int, e = .returned (.tuple #[]) ∧ Fr w w' (blk (.slice A n c)) ∧ w'.ownsRow 0 40 1 (.slice A n c) n (ys.flatMap (Go.Tw.encI .u32)) ∧ aOf ys = siftDown ltInt hi f lo (aOf xs) := by subst hn; exact sift_ct A c xs lo hi f w hown hlen hlo hfh
set_option maxHeartbeats 1000000 in
theorem heap_ct (A : Option Addr) (c : Nat) (xs : List Int) (a b : Nat)  (w : World) (hown : w.ownsRow 0 40 1 (.slice A xs.length c) xs.length (xs.flatMap (Go.Tw.encI .u32))) (hlen : xs.length ≤ 1099511627776) (hab : a < b) (hb : b ≤ xs.length) : Calls Tryz.prog 98 #[.slice A xs.length c, I6 (a : Int), I6 (b : Int)] w fun e w' => ∃ ys : List Int, e = .returned (.tuple #[]) ∧ Fr w w' (blk (.slice A xs.length c)) ∧ w'.ownsRow 0 40 1 (.slice A xs.length c) xs.length (ys.flatMap (Go.Tw.encI .u32)) ∧ aOf ys = heapSort ltInt (aOf xs) a b := by
 refine enterD (n := 56) Tryz.func98 rfl rfl (Nat.le_of_ble_eq_true rfl) ?_
 intro Q0 hN hret hret'
 have hcc_ := own_le hown
 have hC := Cx.start1 w (own_lt hown)
 have hLs_ := own_count (Go.Tw.encI_len .u32) (by decide) hown
 refine WCs (fun K1 hK2 => WCg (WLz 2 [(6, I6 (a : Int))] (WLd rfl (QXn (hK2 _ _ (WCs (fun K3 hK4 => WCg (WLq 1 [(7, I6 0)] (WLd rfl (QXn (hK4 _ _ (WCs (fun K5 hK6 => ?_)))))))))))))
 refine WCg (WLz 3 [(14, I6 (IntKind.i64.wrap ((b : Int) - (a : Int))))] (WLt (show (I6 (IntKind.i64.wrap ((b : Int) - (a : Int))) : Value) = I6 ((b - a : Nat) : Int) from by rw [wrap_in_i64 _ (by omega) (by omega)] <;> first | rfl | (congr 1; done) | (congr 1; omega)) (WLq 1 [(8, I6 ((b - a : Nat) : Int))] (WLd rfl (QXn (hK6 _ _ (WCs (fun K7 hK8 => WCs (fun K9 an => ?_)))))))))
 refine WCg (WLz 2 [(16, I6 (IntKind.i64.wrap (((b - a : Nat) : Int) - 1)))] (WLt (show (I6 (IntKind.i64.wrap (((b - a : Nat) : Int) - 1)) : Value) = I6 ((b - a - 1 : Nat) : Int) from by rw [wrap_in_i64 _ (by omega) (by omega)] <;> first | rfl | (congr 1; done) | (congr 1; omega)) (WLq 1 [(17, I6 (IntKind.i64.wrap (Int.tdiv ((b - a - 1 : Nat) : Int) 2)))] (WLt (show (I6 (IntKind.i64.wrap (Int.tdiv ((b - a - 1 : Nat) : Int) 2)) : Value) = I6 ((((b - a - 1) / 2 + 1 : Nat) : Int) - 1) from by rw [Int.tdiv_eq_ediv_of_nonneg (by omega), wrap_in_i64 _ (by omega) (by omega)] <;> first | rfl | (congr 1; done) | (congr 1; omega)) (WLq 1 [(9, I6 ((((b - a - 1) / 2 + 1 : Nat) : Int) - 1))] (WLd rfl (QXn (an _ _ ?_))))))))
 refine WC.block (WC.loop (fun m_ E_ w_ => ∃ (k : Nat) (L : List Int), m_ = k + 1 ∧ E_ = [(0, .slice A xs.length c), (1, I6 (a : Int)), (2, I6 (b : Int)), (6, I6 (a : Int)), (7, I6 0), (8, I6 ((b - a : Nat) : Int)), (9, I6 ((k : Int) - 1))] ∧ Cx w (blk (.slice A xs.length c)) w_ [] [blk (.slice A xs.length c)] ∧ World.ownsRow w_ 0 40 1 (.slice A xs.length c) xs.length (L.flatMap (Go.Tw.encI .u32)) ∧ (k ≤ (b - a - 1) / 2 + 1 ∧ L.length = xs.length ∧ heapBuild ltInt (b - a) a k (aOf L) = heapBuild ltInt (b - a) a ((b - a - 1) / 2 + 1) (aOf xs))) ⟨_, _, ⟨(b - a - 1) / 2 + 1, xs, rfl, rfl, hC, hown, Nat.le_refl _, rfl, rfl⟩, sub_of ⟨rfl, rfl, rfl, rfl, rfl, rfl, rfl, trivial⟩⟩ (fun m14 E_ aZ a9 aB aC => ?_))
 obtain ⟨k, L, rfl, rfl, ao, hrow, hk, hL, hhb⟩ := aC
 refine WCs (fun ba ap => WCs (fun bb aq => WCg (WLz 2 [(19, .bool (decide (((k : Int) - 1) ≥ 0)))] (WLd rfl (QXn (aq _ _ (WCa 19 (decide (((k : Int) - 1) ≥ 0)) rfl (fun ag => ?_) (fun ag => ?_))))))))
 ·
  have a0 : (0 : Int) ≤ ((k : Int) - 1) := by have q_ := of_decide_eq_true ag; omega
  refine WCt rfl (WC.skip (QXn (ap _ _ (WCs (fun bc aD => WC.block (WCg (WLq 4 [(25, I6 (a : Int)), (24, I6 ((b - a : Nat) : Int)), (23, I6 ((k : Int) - 1)), (22, .slice A xs.length c)] ?_)))))))
  refine WL.know 23 (I6 ((k : Int) - 1)) (I6 ((k - 1 : Nat) : Int)) rfl (congrArg (Value.int .i64) (by omega)) (WLk (sift_n A c xs.length L (own_count (Go.Tw.encI_len .u32) (by decide) hrow) (k - 1) (b - a) a aZ hrow hlen (by omega) (by omega)) ?_)
  rintro _ bd ⟨ys25, rfl, aE, ac, aF⟩
  have aG := ao.callF 0 rfl aE (fun _ h_ => .inl h_) (own_lt ac)
  have a1 := own_count (Go.Tw.encI_len .u32) (by decide) ac
  refine ⟨_, rfl, ?_⟩
  refine WLd rfl (QXb (QXn (aD _ _ (WCg (WLz 2 [(21, I6 (IntKind.i64.wrap (((k : Int) - 1) - 1)))] (WLt (show (I6 (IntKind.i64.wrap (((k : Int) - 1) - 1)) : Value) = I6 (((k - 1 : Nat) : Int) - 1) from by rw [wrap_in_i64 _ (by omega) (by omega)] <;> first | rfl | (congr 1; done) | (congr 1; omega)) ?_))))))
  refine WLq 1 [(9, I6 (((k - 1 : Nat) : Int) - 1))] (WLd rfl (QXn ?_))
  have aH := aG.pick [] [0] rfl rfl
  refine fun a_ ha_ => aB _ _ _ ?_ ⟨k - 1, ys25, rfl, rfl, aH, ac, by omega, (own_count (Go.Tw.encI_len .u32) (by decide) ac), by rw [← hhb, hb_go (k := k) (by omega), ← aF]⟩ a_ (ha_.weaken (sub_of ⟨rfl, rfl, rfl, rfl, rfl, rfl, rfl, trivial⟩))
  omega
 ·
  have a0 : ((k : Int) - 1) < 0 := by have q_ := of_decide_eq_false ag; omega
  refine WCf rfl (WC.exit (QXe (QXe (QX.block_hit (QXn (hK8 _ _ ?_))))))
  refine WCs (fun be ar => WCg (WLz 2 [(28, I6 (IntKind.i64.wrap (((b - a : Nat) : Int) - 1)))] (WLt (show (I6 (IntKind.i64.wrap (((b - a : Nat) : Int) - 1)) : Value) = I6 (((b - a : Nat) : Int) - 1) from by rw [wrap_in_i64 _ (by omega) (by omega)] <;> first | rfl | (congr 1; done) | (congr 1; omega)) (WLq 1 [(10, I6 (((b - a : Nat) : Int) - 1))] (WLd rfl (QXn (ar _ _ (WC.block ?_))))))))
  refine WC.loop (fun m_ E_ w_ => ∃ (k2 : Nat) (L3 : List Int), m_ = k2 + 1 ∧ E_ = [(0, .slice A xs.length c), (1, I6 (a : Int)), (2, I6 (b : Int)), (6, I6 (a : Int)), (7, I6 0), (8, I6 ((b - a : Nat) : Int)), (10, I6 ((k2 : Int) - 1))] ∧ Cx w (blk (.slice A xs.length c)) w_ [] [blk (.slice A xs.length c)] ∧ World.ownsRow w_ 0 40 1 (.slice A xs.length c) xs.length (L3.flatMap (Go.Tw.encI .u32)) ∧ (k2 ≤ b - a ∧ L3.length = xs.length ∧ heapPop ltInt a k2 (aOf L3) = heapPop ltInt a (b - a) (aOf L))) ⟨_, _, ⟨b - a, L, rfl, rfl, ao, hrow, Nat.le_refl _, hL, rfl⟩, sub_of ⟨rfl, rfl, rfl, rfl, rfl, rfl, rfl, trivial⟩⟩ (fun m37 E_ bf bg aI aJ => ?_)
  obtain ⟨k2, L3, rfl, rfl, au, hrow3, hk2, hL3, hhp⟩ := aJ
  refine WCs (fun bh av => WCs (fun bi aw => WCg (WLz 2 [(30, .bool (decide (((k2 : Int) - 1) ≥ 0)))] (WLd rfl (QXn (aw _ _ (WCa 30 (decide (((k2 : Int) - 1) ≥ 0)) rfl (fun ah => ?_) (fun ah => ?_))))))))
  ·
   have a2 : (0 : Int) ≤ ((k2 : Int) - 1) := by have q_ := of_decide_eq_true ah; omega
   refine WCt rfl (WC.skip (QXn (av _ _ (WCs (fun bj aK => WC.block (WCs (fun bk aL => ?_)))))))
   refine WC.drawC au (blk (.slice A xs.length c)) (by kernel_rfl) (fun bl aM aN aa => ?_)
   have ab := own_fr hrow3 aM (by simp)
   refine WDx 6 [(0, 33, .slice A xs.length c), (1, 34, I6 (a : Int)), (2, 35, .slice A xs.length c), (3, 36, I6 (a : Int)), (4, 37, I6 ((k2 : Int) - 1)), (5, 38, I6 (IntKind.i64.wrap ((a : Int) + ((k2 : Int) - 1))))] aa (WD.recast (show (I6 (IntKind.i64.wrap ((a : Int) + ((k2 : Int) - 1))) : Value) = I6 ((a + (k2 - 1) : Nat) : Int) from by rw [wrap_in_i64 _ (by omega) (by omega)] <;> first | rfl | (congr 1; done) | (congr 1; omega)) (WDx 4 [(6, 39, .slice A xs.length c), (7, 40, I6 (a : Int)), (8, 41, I6 ((k2 : Int) - 1)), (9, 42, I6 (IntKind.i64.wrap ((a : Int) + ((k2 : Int) - 1))))] aa (WD.recast (show (I6 (IntKind.i64.wrap ((a : Int) + ((k2 : Int) - 1))) : Value) = I6 ((a + (k2 - 1) : Nat) : Int) from by rw [wrap_in_i64 _ (by omega) (by omega)] <;> first | rfl | (congr 1; done) | (congr 1; omega)) ?_)))
   have a3 := own_count (Go.Tw.encI_len _) (by decide) ab
   obtain ⟨ai, aj⟩ := get_some (xs := L3) (i := (a + (k2 - 1))) (by omega)
   obtain ⟨b56, ax⟩ := own_addr (by decide) (Go.Tw.encI_len _) ab aj
   refine WDi (NPt (NPb (NPt (NPt (NPb hN))))) 10 A xs.length c 43 .i64 ((a + (k2 - 1) : Nat) : Int) b56 0 (a + (k2 - 1)) 1 (by kernel_rfl) (by kernel_rfl) ax (by omega) (by omega) (a + (k2 - 1)) (by first | (simp; done) | omega) aa (WDx 2 [(12, 45, .slice A xs.length c), (13, 46, I6 (a : Int))] aa ?_)
   have a4 := own_count (Go.Tw.encI_len _) (by decide) ab
   obtain ⟨ak, ad⟩ := get_some (xs := L3) (i := a) (by omega)
   obtain ⟨b61, ae⟩ := own_addr (by decide) (Go.Tw.encI_len _) ab ad
   refine WDi (NPt (NPb (NPt (NPt (NPb hN))))) 14 A xs.length c 47 .i64 (a : Int) b61 0 a 1 (by kernel_rfl) (by kernel_rfl) ae (by omega) (by omega) a (by first | (simp; done) | omega) aa ?_
   refine two_loads 11 15 (Instr.loadAt 40 (P0 b56 (a + (k2 - 1)))) (Instr.loadAt 40 (P0 b61 a)) 44 48 (U4 ai) (U4 ak) (by kernel_rfl) (by kernel_rfl) (by kernel_rfl) (run_load1 rfl (by simpa [Nat.add_assoc] using Rd.cell (own_rd ab (Go.Tw.encI_len _) (by decide)) ax aj 0 _ rfl)) (run_load1 rfl (by simpa [Nat.add_assoc] using Rd.cell (own_rd ab (Go.Tw.encI_len _) (by decide)) ae ad 0 _ rfl)) aa (by kernel_rfl) (by kernel_rfl) (by kernel_rfl) (by kernel_rfl) (by decide) (by kernel_rfl) ?_
   refine WDi (NPt (NPb (NPt (NPt (NPb hN))))) 16 A xs.length c 49 .i64 (a : Int) b61 0 a 1 (by kernel_rfl) (by kernel_rfl) ae (by omega) (by omega) a (by first | (simp; done) | omega) aa ?_
   obtain ⟨bm, aO, aP, al, aQ⟩ := stoE_run Tryz.prog (Go.Tw.encI_len _) aN 0 ae rfl ab a 0 (x := ak) ad ai [U4 ai] rfl 40 (U4 ai) (a) rfl rfl rfl (by first | rfl | simp [Nat.add_assoc])
   have am := aa.trans aP (fun x_ hx_ => .inl hx_)
   refine WDu 17 aO am ?_
   have a5 := own_count (Go.Tw.encI_len _) (by decide) al
   obtain ⟨a6, ay⟩ := get_some (xs := L3.set a ai) (i := (a + (k2 - 1))) (by omega)
   obtain ⟨b76, az⟩ := own_addr (by decide) (Go.Tw.encI_len _) al ay
   refine WDi (NPt (NPb (NPt (NPt (NPb hN))))) 18 A xs.length c 50 .i64 ((a + (k2 - 1) : Nat) : Int) b76 0 (a + (k2 - 1)) 1 (by kernel_rfl) (by kernel_rfl) az (by omega) (by omega) (a + (k2 - 1)) (by first | (simp; done) | omega) am ?_
   obtain ⟨a7, aR, aS, aA, aT⟩ := stoE_run Tryz.prog (Go.Tw.encI_len _) aQ 0 az rfl al (a + (k2 - 1)) 0 (x := a6) ay ak [U4 ak] rfl 40 (U4 ak) ((a + (k2 - 1))) rfl rfl rfl (by first | rfl | simp [Nat.add_assoc])
   have aU := am.trans aS (fun x_ hx_ => .inl hx_)
   refine WDu 19 aR aU (WDd (QXn (aL _ _ (WCg (WLq 4 [(54, I6 (a : Int)), (53, I6 ((k2 : Int) - 1)), (52, I6 0), (51, .slice A xs.length c)] (WL.know 53 (I6 ((k2 : Int) - 1)) (I6 ((k2 - 1 : Nat) : Int)) rfl (congrArg (Value.int .i64) (by omega)) (WLk (sift_n A c xs.length ((L3.set a ai).set (a + (k2 - 1)) ak) (own_count (Go.Tw.encI_len .u32) (by decide) aA) 0 (k2 - 1) a a7 aA hlen (by omega) (by omega)) ?_)))))))
   rintro _ bn ⟨ys86, rfl, aV, af, aW⟩
   have aX := aT.callF 0 rfl aV (fun _ h_ => .inl h_) (own_lt af)
   have a8 := own_count (Go.Tw.encI_len .u32) (by decide) af
   refine ⟨_, rfl, ?_⟩
   refine WLd rfl (QXb (QXn (aK _ _ (WCg (WLz 2 [(32, I6 (IntKind.i64.wrap (((k2 : Int) - 1) - 1)))] (WLt (show (I6 (IntKind.i64.wrap (((k2 : Int) - 1) - 1)) : Value) = I6 (((k2 - 1 : Nat) : Int) - 1) from by rw [wrap_in_i64 _ (by omega) (by omega)] <;> first | rfl | (congr 1; done) | (congr 1; omega)) ?_))))))
   refine WLq 1 [(10, I6 (((k2 - 1 : Nat) : Int) - 1))] (WLd rfl (QXn ?_))
   have aY := aX.pick [] [0] rfl rfl
   refine fun a_ ha_ => aI _ _ _ ?_ ⟨k2 - 1, ys86, rfl, rfl, aY, af, by omega, (own_count (Go.Tw.encI_len .u32) (by decide) af), by rw [← hhp, hp_go (k := k2) (by omega), aW, aSwp ad aj]⟩ a_ (ha_.weaken (sub_of ⟨rfl, rfl, rfl, rfl, rfl, rfl, rfl, trivial⟩))
   omega
  ·
   have a2 : ((k2 : Int) - 1) < 0 := by have q_ := of_decide_eq_false ah; omega
   refine WCf rfl (WC.exit (QXe (QXe (QX.block_hit ?_))))
   refine (hret _ _ _ rfl ?_).2
   clear hN hret hret' aw av ar aq ap an hK8 hK6 hK4 hK2
   obtain rfl : k = 0 := by omega
   obtain rfl : k2 = 0 := by omega
   exact ⟨L3, rfl, au.fr, hrow3, by show aOf L3 = heapPop ltInt a (b - a) (heapBuild ltInt (b - a) a ((b - a - 1) / 2 + 1) (aOf xs)); rw [← hhb]; exact hhp⟩

theorem heap_n (A : Option Addr) (c n : Nat) (xs : List Int) (hn : xs.length = n) (a b : Nat) (w : World) (hown : w.ownsRow 0 40 1 (.slice A n c) n (xs.flatMap (Go.Tw.encI .u32))) (hlen : n ≤ 1099511627776) (hab : a < b) (hb : b ≤ n) : Calls Tryz.prog 98 #[.slice A n c, .int .i64 (a : Int), .int .i64 (b : Int)] w fun e w' => ∃ ys : List Int, e = .returned (.tuple #[]) ∧ Fr w w' (blk (.slice A n c)) ∧ w'.ownsRow 0 40 1 (.slice A n c) n (ys.flatMap (Go.Tw.encI .u32)) ∧ aOf ys = heapSort ltInt (aOf xs) a b := by subst hn; exact heap_ct A c xs a b w hown hlen hab hb
end Go.Proofs.YtfligklljkcbfaaGreatDoor
