/- Contracts of functions of the program, each proved by a walk through its code; conditions stand in the statements. -/
import Derived.Test.YtmahghppojbeoaaSeS
import Derived.Sort.AssemblyPlain
namespace Go.Proofs.Ytmahghppojbeoaa
set_option linter.unusedSimpArgs false
set_option linter.unusedVariables false
set_option linter.unusedSectionVars false
open Go Go.RowKit Go.Tw
set_option linter.unusedVariables false
set_option maxRecDepth 20000
open Go.Sort
theorem ins_n (A : Option Addr) (c n : Nat) (xs : List Int) (hn : xs.length = n) (a b : Nat) (w : World) (hown : w.ownsRow 0 44 1 (.slice A n c) n (xs.flatMap (Go.Tw.encI .u32))) (hlen : n ≤ 1099511627776) (hab : a ≤ b) (hb : b ≤ n) : Calls Try.prog 70 #[.slice A n c, .int .i64 (a : Int), .int .i64 (b : Int)] w fun e w' => ∃ ys : List Int, e = .returned (.tuple #[]) ∧ Fr w w' (blk (.slice A n c)) ∧ w'.ownsRow 0 44 1 (.slice A n c) n (ys.flatMap (Go.Tw.encI .u32)) ∧ aOf ys = insertionSort ltInt (aOf xs) a b := by subst hn; exact ins_ct A c xs a b w hown hlen hab hb
theorem rev_n (A : Option Addr) (c n : Nat) (xs : List Int) (hn : xs.length = n) (a b : Nat) (w : World) (hown : w.ownsRow 0 44 1 (.slice A n c) n (xs.flatMap (Go.Tw.encI .u32))) (hlen : n ≤ 1099511627776) (hab : a < b) (hb : b ≤ n) : Calls Try.prog 74 #[.slice A n c, .int .i64 (a : Int), .int .i64 (b : Int)] w fun e w' => ∃ ys : List Int, e = .returned (.tuple #[]) ∧ Fr w w' (blk (.slice A n c)) ∧ w'.ownsRow 0 44 1 (.slice A n c) n (ys.flatMap (Go.Tw.encI .u32)) ∧ aOf ys = reverseRange (aOf xs) a b := by subst hn; exact rev_ct A c xs a b w hown hlen hab hb
set_option maxHeartbeats 1000000 in
theorem sift_ct (A : Option Addr) (c : Nat) (xs : List Int) (lo hi f : Nat)  (w : World) (hown : w.ownsRow 0 44 1 (.slice A xs.length c) xs.length (xs.flatMap (Go.Tw.encI .u32))) (hlen : xs.length ≤ 1099511627776) (hlo : lo ≤ xs.length) (hfh : f + hi ≤ xs.length) : Calls Try.prog 90 #[.slice A xs.length c, .int .i64 (lo : Int), .int .i64 (hi : Int), .int .i64 (f : Int)] w fun e w' => ∃ ys : List Int, e = .returned (.tuple #[]) ∧ Fr w w' (blk (.slice A xs.length c)) ∧ w'.ownsRow 0 44 1 (.slice A xs.length c) xs.length (ys.flatMap (Go.Tw.encI .u32)) ∧ aOf ys = siftDown ltInt hi f lo (aOf xs) := by
 refine enterD (n := 76) Try.func90 rfl rfl (Nat.le_of_ble_eq_true rfl) ?_
 intro Q0 hN hret hret'
 have hcc_ := own_le hown
 have hC := Cx.start1 w (own_lt hown)
 have hLs_ := own_count (Go.Tw.encI_len .u32) (by decide) hown
 refine WCs (fun K1 hK2 => ?_)
 refine WCg (WLq 2 [(8, .int .i64 (lo : Int)), (10, .int .i64 (lo : Int))] (WLd rfl (QXn (hK2 _ _ ?_))))
 refine WC.block ?_
 refine WC.loop (fun m_ E_ w_ => ∃ (r : Nat) (L : List Int), m_ = hi - r ∧ E_ = [(0, .slice A xs.length c), (1, .int .i64 (lo : Int)), (2, .int .i64 (hi : Int)), (3, .int .i64 (f : Int)), (8, .int .i64 (r : Int))] ∧ Cx w (blk (.slice A xs.length c)) w_ [] [blk (.slice A xs.length c)] ∧ World.ownsRow w_ 0 44 1 (.slice A xs.length c) xs.length (L.flatMap (Go.Tw.encI .u32)) ∧ (r ≤ xs.length ∧ L.length = xs.length ∧ siftDown ltInt hi f r (aOf L) = siftDown ltInt hi f lo (aOf xs))) ⟨_, _, ⟨lo, xs, rfl, rfl, hC, hown, hlo, rfl, rfl⟩, sub_of ⟨rfl, rfl, rfl, rfl, rfl, trivial⟩⟩ (fun m6 E_ w7 K3 hK4 hI5 => ?_)
 obtain ⟨r, L, rfl, rfl, hC8, hrow, hr, hL, hsd⟩ := hI5
 refine WC.block ?_
 refine WCs (fun K9 bV => ?_)
 refine WCg (WLq 2 [(12, .int .i64 (IntKind.i64.wrap (2 * (r : Int)))), (11, .int .i64 (r : Int))] ?_)
 refine WLt (show (.int .i64 (IntKind.i64.wrap (2 * (r : Int))) : Value) = .int .i64 ((2 * r : Nat) : Int) from by rw [wrap_in_i64 _ (by omega) (by omega)]; first | rfl | (congr 1; done) | (congr 1; omega)) ?_
 refine WLq 1 [(13, .int .i64 (IntKind.i64.wrap (((2 * r : Nat) : Int) + 1)))] ?_
 refine WLt (show (.int .i64 (IntKind.i64.wrap (((2 * r : Nat) : Int) + 1)) : Value) = .int .i64 ((2 * r + 1 : Nat) : Int) from by rw [wrap_in_i64 _ (by omega) (by omega)]; first | rfl | (congr 1; done) | (congr 1; omega)) ?_
 refine WLq 1 [(9, .int .i64 ((2 * r + 1 : Nat) : Int))] (WLd rfl (QXn (bV _ _ ?_)))
 refine WCs (fun cJ bW => ?_)
 refine WCs (fun cK bX => ?_)
 refine WCg (WLq 3 [(16, .bool (decide (((2 * r + 1 : Nat) : Int) ≥ (hi : Int)))), (15, .int .i64 (hi : Int)), (14, .int .i64 ((2 * r + 1 : Nat) : Int))] (WLd rfl (QXn (bX _ _ ?_))))
 refine WCa 16 (decide (((2 * r + 1 : Nat) : Int) ≥ (hi : Int))) rfl (fun a1 => ?_) (fun a1 => ?_)
 ·
  have cm : (hi : Int) ≤ ((2 * r + 1 : Nat) : Int) := by have q_ := of_decide_eq_true a1; omega
  refine WCt rfl ?_
  refine WC.exit ?_
  refine QXe ?_
  refine QX.block_miss (by decide) ?_
  refine QXe ?_
  refine QX.block_hit ?_
  refine (hret _ _ _ rfl ?_).2
  exact ⟨L, rfl, hC8.fr, hrow, by rw [← hsd, sift_stop (by omega)]⟩
 ·
  have cm : ((2 * r + 1 : Nat) : Int) < (hi : Int) := by have q_ := of_decide_eq_false a1; omega
  refine WCf rfl (WC.skip (QXn (bW _ _ ?_)))
  refine WCs (fun cL a2 => ?_)
  refine WCs (fun cM bb => ?_)
  refine WC.drawC hC8 [] (by kernel_rfl) (fun cn bY bc aa => ?_)
  have ap := own_fr hrow bY (by simp)
  refine WDq (NPt (NPt (NPb (NPt (NPb hN))))) 0 17 (.int .i64 ((2 * r + 1 : Nat) : Int)) aa ?_
  refine WDq (NPt (NPt (NPb (NPt (NPb hN))))) 1 18 (.int .i64 (IntKind.i64.wrap (((2 * r + 1 : Nat) : Int) + 1))) aa ?_
  refine WD.recast (show (.int .i64 (IntKind.i64.wrap (((2 * r + 1 : Nat) : Int) + 1)) : Value) = .int .i64 ((2 * r + 2 : Nat) : Int) from by rw [wrap_in_i64 _ (by omega) (by omega)]; first | rfl | (congr 1; done) | (congr 1; omega)) ?_
  refine WDq (NPt (NPt (NPb (NPt (NPb hN))))) 2 19 (.int .i64 (hi : Int)) aa ?_
  refine WDq (NPt (NPt (NPb (NPt (NPb hN))))) 3 20 (.bool (decide (((2 * r + 2 : Nat) : Int) < (hi : Int)))) aa ?_
  refine WDq (NPt (NPt (NPb (NPt (NPb hN))))) 4 21 (.bool (decide (((2 * r + 2 : Nat) : Int) < (hi : Int)))) aa ?_
  refine WDa 21 (decide (((2 * r + 2 : Nat) : Int) < (hi : Int))) rfl (fun a3 => ?_) (fun a3 => ?_)
  ·
   have co : ((2 * r + 2 : Nat) : Int) < (hi : Int) := by have q_ := of_decide_eq_true a3; omega
   refine WDq (NPt (NPt (NPb (NPt (NPb hN))))) 5 22 (.slice A xs.length c) aa ?_
   refine WDq (NPt (NPt (NPb (NPt (NPb hN))))) 6 23 (.int .i64 (f : Int)) aa ?_
   refine WDq (NPt (NPt (NPb (NPt (NPb hN))))) 7 24 (.int .i64 ((2 * r + 1 : Nat) : Int)) aa ?_
   refine WDq (NPt (NPt (NPb (NPt (NPb hN))))) 8 25 (.int .i64 (IntKind.i64.wrap ((f : Int) + ((2 * r + 1 : Nat) : Int)))) aa ?_
   refine WD.recast (show (.int .i64 (IntKind.i64.wrap ((f : Int) + ((2 * r + 1 : Nat) : Int))) : Value) = .int .i64 ((f + (2 * r + 1) : Nat) : Int) from by rw [wrap_in_i64 _ (by omega) (by omega)]; first | rfl | (congr 1; done) | (congr 1; omega)) ?_
   have cp := own_count (Go.Tw.encI_len _) (by decide) ap
   obtain ⟨aq, ar⟩ := get_some (xs := L) (i := (f + (2 * r + 1))) (by omega)
   obtain ⟨b28, aB⟩ := own_addr (by decide) (Go.Tw.encI_len _) ap ar
   refine WDi (NPt (NPt (NPb (NPt (NPb hN))))) 9 A xs.length c 26 .i64 ((f + (2 * r + 1) : Nat) : Int) b28 0 (f + (2 * r + 1)) 1 (by kernel_rfl) (by kernel_rfl) aB (by omega) (by omega) (f + (2 * r + 1)) (by first | (simp; done) | omega) aa ?_
   refine WDq (NPt (NPt (NPb (NPt (NPb hN))))) 11 28 (.slice A xs.length c) aa ?_
   refine WDq (NPt (NPt (NPb (NPt (NPb hN))))) 12 29 (.int .i64 (f : Int)) aa ?_
   refine WDq (NPt (NPt (NPb (NPt (NPb hN))))) 13 30 (.int .i64 ((2 * r + 1 : Nat) : Int)) aa ?_
   refine WDq (NPt (NPt (NPb (NPt (NPb hN))))) 14 31 (.int .i64 (IntKind.i64.wrap ((f : Int) + ((2 * r + 1 : Nat) : Int)))) aa ?_
   refine WD.recast (show (.int .i64 (IntKind.i64.wrap ((f : Int) + ((2 * r + 1 : Nat) : Int))) : Value) = .int .i64 ((f + (2 * r + 1) : Nat) : Int) from by rw [wrap_in_i64 _ (by omega) (by omega)]; first | rfl | (congr 1; done) | (congr 1; omega)) ?_
   refine WDq (NPt (NPt (NPb (NPt (NPb hN))))) 15 32 (.int .i64 (IntKind.i64.wrap (((f + (2 * r + 1) : Nat) : Int) + 1))) aa ?_
   refine WD.recast (show (.int .i64 (IntKind.i64.wrap (((f + (2 * r + 1) : Nat) : Int) + 1)) : Value) = .int .i64 ((f + (2 * r + 2) : Nat) : Int) from by rw [wrap_in_i64 _ (by omega) (by omega)]; first | rfl | (congr 1; done) | (congr 1; omega)) ?_
   have cq := own_count (Go.Tw.encI_len _) (by decide) ap
   obtain ⟨au, av⟩ := get_some (xs := L) (i := (f + (2 * r + 2))) (by omega)
   obtain ⟨b33, aC⟩ := own_addr (by decide) (Go.Tw.encI_len _) ap av
   refine WDi (NPt (NPt (NPb (NPt (NPb hN))))) 16 A xs.length c 33 .i64 ((f + (2 * r + 2) : Nat) : Int) b33 0 (f + (2 * r + 2)) 1 (by kernel_rfl) (by kernel_rfl) aC (by omega) (by omega) (f + (2 * r + 2)) (by first | (simp; done) | omega) aa ?_
   refine WDm (NPt (NPt (NPb (NPt (NPb hN))))) 10 44 (.pointer (some ⟨b28, (f + (2 * r + 1)), none⟩)) (.int .u32 aq) 27 (fun _ hS_ => run_load1 rfl (by simpa [Nat.add_assoc] using Rd.cell (own_rd (own_fr ap hS_ (by simp)) (Go.Tw.encI_len _) (by decide)) aB ar 0 _ rfl)) aa ?_
   refine WDm (NPt (NPt (NPb (NPt (NPb hN))))) 17 44 (.pointer (some ⟨b33, (f + (2 * r + 2)), none⟩)) (.int .u32 au) 34 (fun _ hS_ => run_load1 rfl (by simpa [Nat.add_assoc] using Rd.cell (own_rd (own_fr ap hS_ (by simp)) (Go.Tw.encI_len _) (by decide)) aC av 0 _ rfl)) aa ?_
   refine WD.call 18 (by kernel_rfl) rfl rfl rfl rfl rfl (by kernel_rfl) (Less_ct aq au cn) ?_
   rintro _ cN ⟨rfl, a4⟩
   have bd := aa.trans a4 (by simp)
   refine ⟨_, rfl, bd, ?_⟩
   have be := bc.call a4
   have bf := own_fr ap a4 (by simp)
   refine WDq (NPt (NPt (NPb (NPt (NPb hN))))) 19 36 (.bool (decide (aq < au))) bd ?_
   refine WD.done (by kernel_rfl) ?_
   refine QXn (bb _ _ ?_)
   refine WCa 36 (decide (aq < au)) rfl (fun aG => ?_) (fun aG => ?_)
   ·
    refine WCt rfl ?_
    refine WCg (WLq 2 [(38, .int .i64 (IntKind.i64.wrap (((2 * r + 1 : Nat) : Int) + 1))), (37, .int .i64 ((2 * r + 1 : Nat) : Int))] ?_)
    refine WLt (show (.int .i64 (IntKind.i64.wrap (((2 * r + 1 : Nat) : Int) + 1)) : Value) = .int .i64 ((2 * r + 2 : Nat) : Int) from by rw [wrap_in_i64 _ (by omega) (by omega)]; first | rfl | (congr 1; done) | (congr 1; omega)) ?_
    refine WLq 1 [(9, .int .i64 ((2 * r + 2 : Nat) : Int))] (WLd rfl (QXn (a2 _ _ ?_)))
    refine WCs (fun cO bZ => ?_)
    refine WCs (fun cP b0 => ?_)
    refine WC.drawC be [] (by kernel_rfl) (fun cr b1 b2 ag => ?_)
    have aH := own_fr bf b1 (by simp)
    refine WDq (NPt (NPt (NPb (NPt (NPb hN))))) 0 39 (.slice A xs.length c) ag ?_
    refine WDq (NPt (NPt (NPb (NPt (NPb hN))))) 1 40 (.int .i64 (f : Int)) ag ?_
    refine WDq (NPt (NPt (NPb (NPt (NPb hN))))) 2 41 (.int .i64 (r : Int)) ag ?_
    refine WDq (NPt (NPt (NPb (NPt (NPb hN))))) 3 42 (.int .i64 (IntKind.i64.wrap ((f : Int) + (r : Int)))) ag ?_
    refine WD.recast (show (.int .i64 (IntKind.i64.wrap ((f : Int) + (r : Int))) : Value) = .int .i64 ((f + r : Nat) : Int) from by rw [wrap_in_i64 _ (by omega) (by omega)]; first | rfl | (congr 1; done) | (congr 1; omega)) ?_
    have cs := own_count (Go.Tw.encI_len _) (by decide) aH
    obtain ⟨aD, aE⟩ := get_some (xs := L) (i := (f + r)) (by omega)
    obtain ⟨b53, aF⟩ := own_addr (by decide) (Go.Tw.encI_len _) aH aE
    refine WDi (NPt (NPt (NPb (NPt (NPb hN))))) 4 A xs.length c 43 .i64 ((f + r : Nat) : Int) b53 0 (f + r) 1 (by kernel_rfl) (by kernel_rfl) aF (by omega) (by omega) (f + r) (by first | (simp; done) | omega) ag ?_
    refine WDq (NPt (NPt (NPb (NPt (NPb hN))))) 6 45 (.slice A xs.length c) ag ?_
    refine WDq (NPt (NPt (NPb (NPt (NPb hN))))) 7 46 (.int .i64 (f : Int)) ag ?_
    refine WDq (NPt (NPt (NPb (NPt (NPb hN))))) 8 47 (.int .i64 ((2 * r + 2 : Nat) : Int)) ag ?_
    refine WDq (NPt (NPt (NPb (NPt (NPb hN))))) 9 48 (.int .i64 (IntKind.i64.wrap ((f : Int) + ((2 * r + 2 : Nat) : Int)))) ag ?_
    refine WD.recast (show (.int .i64 (IntKind.i64.wrap ((f : Int) + ((2 * r + 2 : Nat) : Int))) : Value) = .int .i64 ((f + (2 * r + 2) : Nat) : Int) from by rw [wrap_in_i64 _ (by omega) (by omega)]; first | rfl | (congr 1; done) | (congr 1; omega)) ?_
    refine WDi (NPt (NPt (NPb (NPt (NPb hN))))) 10 A xs.length c 49 .i64 ((f + (2 * r + 2) : Nat) : Int) b33 0 (f + (2 * r + 2)) 1 (by kernel_rfl) (by kernel_rfl) aC (by omega) (by omega) (f + (2 * r + 2)) (by first | (simp; done) | omega) ag ?_
    refine WDm (NPt (NPt (NPb (NPt (NPb hN))))) 5 44 (.pointer (some ⟨b53, (f + r), none⟩)) (.int .u32 aD) 44 (fun _ hS_ => run_load1 rfl (by simpa [Nat.add_assoc] using Rd.cell (own_rd (own_fr aH hS_ (by simp)) (Go.Tw.encI_len _) (by decide)) aF aE 0 _ rfl)) ag ?_
    refine WDm (NPt (NPt (NPb (NPt (NPb hN))))) 11 44 (.pointer (some ⟨b33, (f + (2 * r + 2)), none⟩)) (.int .u32 au) 50 (fun _ hS_ => run_load1 rfl (by simpa [Nat.add_assoc] using Rd.cell (own_rd (own_fr aH hS_ (by simp)) (Go.Tw.encI_len _) (by decide)) aC av 0 _ rfl)) ag ?_
    refine WD.call 12 (by kernel_rfl) rfl rfl rfl rfl rfl (by kernel_rfl) (Less_ct aD au cr) ?_
    rintro _ cQ ⟨rfl, a5⟩
    have bg := ag.trans a5 (by simp)
    refine ⟨_, rfl, bg, ?_⟩
    have bh := b2.call a5
    have bi := own_fr aH a5 (by simp)
    refine WDq (NPt (NPt (NPb (NPt (NPb hN))))) 13 52 (.bool (!(decide (aD < au)))) bg ?_
    refine WD.done (by kernel_rfl) ?_
    refine QXn (b0 _ _ ?_)
    refine WCa 52 (!(decide (aD < au))) rfl (fun aI => ?_) (fun aI => ?_)
    ·
     have b3 : (decide (aD < au)) = false := by first | (simpa only [Bool.not_eq_true', Bool.not_eq_false'] using aI) | simpa using aI
     refine WCt rfl ?_
     refine WC.ret ?_
     refine QXr ?_
     refine QXk ?_
     refine QXr ?_
     refine QXk ?_
     refine (hret _ _ _ rfl ?_).1
     exact ⟨L, rfl, bh.fr, bi, by rw [← hsd, sift_c2 (by omega) ar av aE aG, if_neg (by rw [b3]; simp)]⟩
    ·
     have b3 : (decide (aD < au)) = true := by first | (simpa only [Bool.not_eq_true', Bool.not_eq_false'] using aI) | simpa using aI
     refine WCf rfl (WC.skip (QXn (bZ _ _ ?_)))
     refine WCs (fun cR b4 => ?_)
     refine WC.drawC bh (blk (.slice A xs.length c)) (by kernel_rfl) (fun cS b5 b6 ad => ?_)
     have a6 := own_fr bi b5 (by simp)
     refine WDq (NPt (NPb (NPt (NPb hN)))) 0 53 (.slice A xs.length c) ad ?_
     refine WDq (NPt (NPb (NPt (NPb hN)))) 1 54 (.int .i64 (f : Int)) ad ?_
     refine WDq (NPt (NPb (NPt (NPb hN)))) 2 55 (.int .i64 (r : Int)) ad ?_
     refine WDq (NPt (NPb (NPt (NPb hN)))) 3 56 (.int .i64 (IntKind.i64.wrap ((f : Int) + (r : Int)))) ad ?_
     refine WD.recast (show (.int .i64 (IntKind.i64.wrap ((f : Int) + (r : Int))) : Value) = .int .i64 ((f + r : Nat) : Int) from by rw [wrap_in_i64 _ (by omega) (by omega)]; first | rfl | (congr 1; done) | (congr 1; omega)) ?_
     refine WDq (NPt (NPb (NPt (NPb hN)))) 4 57 (.slice A xs.length c) ad ?_
     refine WDq (NPt (NPb (NPt (NPb hN)))) 5 58 (.int .i64 (f : Int)) ad ?_
     refine WDq (NPt (NPb (NPt (NPb hN)))) 6 59 (.int .i64 ((2 * r + 2 : Nat) : Int)) ad ?_
     refine WDq (NPt (NPb (NPt (NPb hN)))) 7 60 (.int .i64 (IntKind.i64.wrap ((f : Int) + ((2 * r + 2 : Nat) : Int)))) ad ?_
     refine WD.recast (show (.int .i64 (IntKind.i64.wrap ((f : Int) + ((2 * r + 2 : Nat) : Int))) : Value) = .int .i64 ((f + (2 * r + 2) : Nat) : Int) from by rw [wrap_in_i64 _ (by omega) (by omega)]; first | rfl | (congr 1; done) | (congr 1; omega)) ?_
     refine WDq (NPt (NPb (NPt (NPb hN)))) 8 61 (.slice A xs.length c) ad ?_
     refine WDq (NPt (NPb (NPt (NPb hN)))) 9 62 (.int .i64 (f : Int)) ad ?_
     refine WDq (NPt (NPb (NPt (NPb hN)))) 10 63 (.int .i64 ((2 * r + 2 : Nat) : Int)) ad ?_
     refine WDq (NPt (NPb (NPt (NPb hN)))) 11 64 (.int .i64 (IntKind.i64.wrap ((f : Int) + ((2 * r + 2 : Nat) : Int)))) ad ?_
     refine WD.recast (show (.int .i64 (IntKind.i64.wrap ((f : Int) + ((2 * r + 2 : Nat) : Int))) : Value) = .int .i64 ((f + (2 * r + 2) : Nat) : Int) from by rw [wrap_in_i64 _ (by omega) (by omega)]; first | rfl | (congr 1; done) | (congr 1; omega)) ?_
     refine WDi (NPt (NPb (NPt (NPb hN)))) 12 A xs.length c 65 .i64 ((f + (2 * r + 2) : Nat) : Int) b33 0 (f + (2 * r + 2)) 1 (by kernel_rfl) (by kernel_rfl) aC (by omega) (by omega) (f + (2 * r + 2)) (by first | (simp; done) | omega) ad ?_
     refine WDq (NPt (NPb (NPt (NPb hN)))) 14 67 (.slice A xs.length c) ad ?_
     refine WDq (NPt (NPb (NPt (NPb hN)))) 15 68 (.int .i64 (f : Int)) ad ?_
     refine WDq (NPt (NPb (NPt (NPb hN)))) 16 69 (.int .i64 (r : Int)) ad ?_
     refine WDq (NPt (NPb (NPt (NPb hN)))) 17 70 (.int .i64 (IntKind.i64.wrap ((f : Int) + (r : Int)))) ad ?_
     refine WD.recast (show (.int .i64 (IntKind.i64.wrap ((f : Int) + (r : Int))) : Value) = .int .i64 ((f + r : Nat) : Int) from by rw [wrap_in_i64 _ (by omega) (by omega)]; first | rfl | (congr 1; done) | (congr 1; omega)) ?_
     refine WDi (NPt (NPb (NPt (NPb hN)))) 18 A xs.length c 71 .i64 ((f + r : Nat) : Int) b53 0 (f + r) 1 (by kernel_rfl) (by kernel_rfl) aF (by omega) (by omega) (f + r) (by first | (simp; done) | omega) ad ?_
     refine two_loads 13 19 (Instr.loadAt 44 (.pointer (some ⟨b33, (f + (2 * r + 2)), none⟩))) (Instr.loadAt 44 (.pointer (some ⟨b53, (f + r), none⟩))) 66 72 (.int .u32 au) (.int .u32 aD) (by kernel_rfl) (by kernel_rfl) (by kernel_rfl) (run_load1 rfl (by simpa [Nat.add_assoc] using Rd.cell (own_rd a6 (Go.Tw.encI_len _) (by decide)) aC av 0 _ rfl)) (run_load1 rfl (by simpa [Nat.add_assoc] using Rd.cell (own_rd a6 (Go.Tw.encI_len _) (by decide)) aF aE 0 _ rfl)) ad (by kernel_rfl) (by kernel_rfl) (by kernel_rfl) (by kernel_rfl) (by decide) (by kernel_rfl) ?_
     refine WDi (NPt (NPb (NPt (NPb hN)))) 20 A xs.length c 73 .i64 ((f + r : Nat) : Int) b53 0 (f + r) 1 (by kernel_rfl) (by kernel_rfl) aF (by omega) (by omega) (f + r) (by first | (simp; done) | omega) ad ?_
     obtain ⟨cT, b7, b8, a7, b9⟩ := stoE_run Try.prog (Go.Tw.encI_len _) b6 0 aF rfl a6 (f + r) 0 (x := aD) aE au [.int .u32 au] rfl 44 (.int .u32 au) ((f + r)) rfl rfl rfl (by first | rfl | simp [Nat.add_assoc])
     have a8 := ad.trans b8 (fun x_ hx_ => .inl hx_)
     refine WD.semU 21 (Instr.storeAt 44 (.pointer (some ⟨b53, (f + r), none⟩)) (.int .u32 au)) (by kernel_rfl) (by kernel_rfl) b7 a8 ?_
     have ct := own_count (Go.Tw.encI_len _) (by decide) a7
     obtain ⟨cu, bj⟩ := get_some (xs := L.set (f + r) au) (i := (f + (2 * r + 2))) (by omega)
     obtain ⟨b93, bk⟩ := own_addr (by decide) (Go.Tw.encI_len _) a7 bj
     refine WDi (NPt (NPb (NPt (NPb hN)))) 22 A xs.length c 74 .i64 ((f + (2 * r + 2) : Nat) : Int) b93 0 (f + (2 * r + 2)) 1 (by kernel_rfl) (by kernel_rfl) bk (by omega) (by omega) (f + (2 * r + 2)) (by first | (simp; done) | omega) a8 ?_
     obtain ⟨cU, ca, cb, bl, cc⟩ := stoE_run Try.prog (Go.Tw.encI_len _) b9 0 bk rfl a7 (f + (2 * r + 2)) 0 (x := cu) bj aD [.int .u32 aD] rfl 44 (.int .u32 aD) ((f + (2 * r + 2))) rfl rfl rfl (by first | rfl | simp [Nat.add_assoc])
     have bm := a8.trans cb (fun x_ hx_ => .inl hx_)
     refine WD.semU 23 (Instr.storeAt 44 (.pointer (some ⟨b93, (f + (2 * r + 2)), none⟩)) (.int .u32 aD)) (by kernel_rfl) (by kernel_rfl) ca bm ?_
     refine WD.done (by kernel_rfl) ?_
     refine QXn (b4 _ _ ?_)
     refine WCg (WLq 2 [(8, .int .i64 ((2 * r + 2 : Nat) : Int)), (75, .int .i64 ((2 * r + 2 : Nat) : Int))] ?_)
     refine WLd rfl ?_
     refine QXb ?_
     refine QXn ?_
     have bn := cc.pick [] [0] rfl rfl
     refine fun a_ ha_ => hK4 _ _ _ ?_ ⟨2 * r + 2, (L.set (f + r) au).set (f + (2 * r + 2)) aD, rfl, rfl, bn, bl, by omega, (set2_len _ _ _ _ _).trans hL, by rw [← hsd, sift_c2 (by omega) ar av aE aG, if_pos b3]⟩ a_ (ha_.weaken (sub_of ⟨rfl, rfl, rfl, rfl, rfl, trivial⟩))
     omega
   ·
    refine WCf rfl (WC.skip (QXn (a2 _ _ ?_)))
    refine WCs (fun cv bo => ?_)
    refine WCs (fun cw bp => ?_)
    refine WC.drawC be [] (by kernel_rfl) (fun cd bq br ae => ?_)
    have aw := own_fr bf bq (by simp)
    refine WDq (NPt (NPt (NPb (NPt (NPb hN))))) 0 39 (.slice A xs.length c) ae ?_
    refine WDq (NPt (NPt (NPb (NPt (NPb hN))))) 1 40 (.int .i64 (f : Int)) ae ?_
    refine WDq (NPt (NPt (NPb (NPt (NPb hN))))) 2 41 (.int .i64 (r : Int)) ae ?_
    refine WDq (NPt (NPt (NPb (NPt (NPb hN))))) 3 42 (.int .i64 (IntKind.i64.wrap ((f : Int) + (r : Int)))) ae ?_
    refine WD.recast (show (.int .i64 (IntKind.i64.wrap ((f : Int) + (r : Int))) : Value) = .int .i64 ((f + r : Nat) : Int) from by rw [wrap_in_i64 _ (by omega) (by omega)]; first | rfl | (congr 1; done) | (congr 1; omega)) ?_
    have ch := own_count (Go.Tw.encI_len _) (by decide) aw
    obtain ⟨ah, al⟩ := get_some (xs := L) (i := (f + r)) (by omega)
    obtain ⟨b114, am⟩ := own_addr (by decide) (Go.Tw.encI_len _) aw al
    refine WDi (NPt (NPt (NPb (NPt (NPb hN))))) 4 A xs.length c 43 .i64 ((f + r : Nat) : Int) b114 0 (f + r) 1 (by kernel_rfl) (by kernel_rfl) am (by omega) (by omega) (f + r) (by first | (simp; done) | omega) ae ?_
    refine WDq (NPt (NPt (NPb (NPt (NPb hN))))) 6 45 (.slice A xs.length c) ae ?_
    refine WDq (NPt (NPt (NPb (NPt (NPb hN))))) 7 46 (.int .i64 (f : Int)) ae ?_
    refine WDq (NPt (NPt (NPb (NPt (NPb hN))))) 8 47 (.int .i64 ((2 * r + 1 : Nat) : Int)) ae ?_
    refine WDq (NPt (NPt (NPb (NPt (NPb hN))))) 9 48 (.int .i64 (IntKind.i64.wrap ((f : Int) + ((2 * r + 1 : Nat) : Int)))) ae ?_
    refine WD.recast (show (.int .i64 (IntKind.i64.wrap ((f : Int) + ((2 * r + 1 : Nat) : Int))) : Value) = .int .i64 ((f + (2 * r + 1) : Nat) : Int) from by rw [wrap_in_i64 _ (by omega) (by omega)]; first | rfl | (congr 1; done) | (congr 1; omega)) ?_
    refine WDi (NPt (NPt (NPb (NPt (NPb hN))))) 10 A xs.length c 49 .i64 ((f + (2 * r + 1) : Nat) : Int) b28 0 (f + (2 * r + 1)) 1 (by kernel_rfl) (by kernel_rfl) aB (by omega) (by omega) (f + (2 * r + 1)) (by first | (simp; done) | omega) ae ?_
    refine WDm (NPt (NPt (NPb (NPt (NPb hN))))) 5 44 (.pointer (some ⟨b114, (f + r), none⟩)) (.int .u32 ah) 44 (fun _ hS_ => run_load1 rfl (by simpa [Nat.add_assoc] using Rd.cell (own_rd (own_fr aw hS_ (by simp)) (Go.Tw.encI_len _) (by decide)) am al 0 _ rfl)) ae ?_
    refine WDm (NPt (NPt (NPb (NPt (NPb hN))))) 11 44 (.pointer (some ⟨b28, (f + (2 * r + 1)), none⟩)) (.int .u32 aq) 50 (fun _ hS_ => run_load1 rfl (by simpa [Nat.add_assoc] using Rd.cell (own_rd (own_fr aw hS_ (by simp)) (Go.Tw.encI_len _) (by decide)) aB ar 0 _ rfl)) ae ?_
    refine WD.call 12 (by kernel_rfl) rfl rfl rfl rfl rfl (by kernel_rfl) (Less_ct ah aq cd) ?_
    rintro _ cx ⟨rfl, aJ⟩
    have aR := ae.trans aJ (by simp)
    refine ⟨_, rfl, aR, ?_⟩
    have aS := br.call aJ
    have aT := own_fr aw aJ (by simp)
    refine WDq (NPt (NPt (NPb (NPt (NPb hN))))) 13 52 (.bool (!(decide (ah < aq)))) aR ?_
    refine WD.done (by kernel_rfl) ?_
    refine QXn (bp _ _ ?_)
    refine WCa 52 (!(decide (ah < aq))) rfl (fun ax => ?_) (fun ax => ?_)
    ·
     have a9 : (decide (ah < aq)) = false := by first | (simpa only [Bool.not_eq_true', Bool.not_eq_false'] using ax) | simpa using ax
     refine WCt rfl ?_
     refine WC.ret ?_
     refine QXr ?_
     refine QXk ?_
     refine QXr ?_
     refine QXk ?_
     refine (hret _ _ _ rfl ?_).1
     exact ⟨L, rfl, aS.fr, aT, by rw [← hsd, sift_c1 (by omega) ar al (fun _ x_ hx_ => by rw [av] at hx_; cases hx_; exact aG) (by omega), if_neg (by rw [a9]; simp)]⟩
    ·
     have a9 : (decide (ah < aq)) = true := by first | (simpa only [Bool.not_eq_true', Bool.not_eq_false'] using ax) | simpa using ax
     refine WCf rfl (WC.skip (QXn (bo _ _ ?_)))
     refine WCs (fun cy bs => ?_)
     refine WC.drawC aS (blk (.slice A xs.length c)) (by kernel_rfl) (fun cz bt bu ab => ?_)
     have aK := own_fr aT bt (by simp)
     refine WDq (NPt (NPb (NPt (NPb hN)))) 0 53 (.slice A xs.length c) ab ?_
     refine WDq (NPt (NPb (NPt (NPb hN)))) 1 54 (.int .i64 (f : Int)) ab ?_
     refine WDq (NPt (NPb (NPt (NPb hN)))) 2 55 (.int .i64 (r : Int)) ab ?_
     refine WDq (NPt (NPb (NPt (NPb hN)))) 3 56 (.int .i64 (IntKind.i64.wrap ((f : Int) + (r : Int)))) ab ?_
     refine WD.recast (show (.int .i64 (IntKind.i64.wrap ((f : Int) + (r : Int))) : Value) = .int .i64 ((f + r : Nat) : Int) from by rw [wrap_in_i64 _ (by omega) (by omega)]; first | rfl | (congr 1; done) | (congr 1; omega)) ?_
     refine WDq (NPt (NPb (NPt (NPb hN)))) 4 57 (.slice A xs.length c) ab ?_
     refine WDq (NPt (NPb (NPt (NPb hN)))) 5 58 (.int .i64 (f : Int)) ab ?_
     refine WDq (NPt (NPb (NPt (NPb hN)))) 6 59 (.int .i64 ((2 * r + 1 : Nat) : Int)) ab ?_
     refine WDq (NPt (NPb (NPt (NPb hN)))) 7 60 (.int .i64 (IntKind.i64.wrap ((f : Int) + ((2 * r + 1 : Nat) : Int)))) ab ?_
     refine WD.recast (show (.int .i64 (IntKind.i64.wrap ((f : Int) + ((2 * r + 1 : Nat) : Int))) : Value) = .int .i64 ((f + (2 * r + 1) : Nat) : Int) from by rw [wrap_in_i64 _ (by omega) (by omega)]; first | rfl | (congr 1; done) | (congr 1; omega)) ?_
     refine WDq (NPt (NPb (NPt (NPb hN)))) 8 61 (.slice A xs.length c) ab ?_
     refine WDq (NPt (NPb (NPt (NPb hN)))) 9 62 (.int .i64 (f : Int)) ab ?_
     refine WDq (NPt (NPb (NPt (NPb hN)))) 10 63 (.int .i64 ((2 * r + 1 : Nat) : Int)) ab ?_
     refine WDq (NPt (NPb (NPt (NPb hN)))) 11 64 (.int .i64 (IntKind.i64.wrap ((f : Int) + ((2 * r + 1 : Nat) : Int)))) ab ?_
     refine WD.recast (show (.int .i64 (IntKind.i64.wrap ((f : Int) + ((2 * r + 1 : Nat) : Int))) : Value) = .int .i64 ((f + (2 * r + 1) : Nat) : Int) from by rw [wrap_in_i64 _ (by omega) (by omega)]; first | rfl | (congr 1; done) | (congr 1; omega)) ?_
     refine WDi (NPt (NPb (NPt (NPb hN)))) 12 A xs.length c 65 .i64 ((f + (2 * r + 1) : Nat) : Int) b28 0 (f + (2 * r + 1)) 1 (by kernel_rfl) (by kernel_rfl) aB (by omega) (by omega) (f + (2 * r + 1)) (by first | (simp; done) | omega) ab ?_
     refine WDq (NPt (NPb (NPt (NPb hN)))) 14 67 (.slice A xs.length c) ab ?_
     refine WDq (NPt (NPb (NPt (NPb hN)))) 15 68 (.int .i64 (f : Int)) ab ?_
     refine WDq (NPt (NPb (NPt (NPb hN)))) 16 69 (.int .i64 (r : Int)) ab ?_
     refine WDq (NPt (NPb (NPt (NPb hN)))) 17 70 (.int .i64 (IntKind.i64.wrap ((f : Int) + (r : Int)))) ab ?_
     refine WD.recast (show (.int .i64 (IntKind.i64.wrap ((f : Int) + (r : Int))) : Value) = .int .i64 ((f + r : Nat) : Int) from by rw [wrap_in_i64 _ (by omega) (by omega)]; first | rfl | (congr 1; done) | (congr 1; omega)) ?_
     refine WDi (NPt (NPb (NPt (NPb hN)))) 18 A xs.length c 71 .i64 ((f + r : Nat) : Int) b114 0 (f + r) 1 (by kernel_rfl) (by kernel_rfl) am (by omega) (by omega) (f + r) (by first | (simp; done) | omega) ab ?_
     refine two_loads 13 19 (Instr.loadAt 44 (.pointer (some ⟨b28, (f + (2 * r + 1)), none⟩))) (Instr.loadAt 44 (.pointer (some ⟨b114, (f + r), none⟩))) 66 72 (.int .u32 aq) (.int .u32 ah) (by kernel_rfl) (by kernel_rfl) (by kernel_rfl) (run_load1 rfl (by simpa [Nat.add_assoc] using Rd.cell (own_rd aK (Go.Tw.encI_len _) (by decide)) aB ar 0 _ rfl)) (run_load1 rfl (by simpa [Nat.add_assoc] using Rd.cell (own_rd aK (Go.Tw.encI_len _) (by decide)) am al 0 _ rfl)) ab (by kernel_rfl) (by kernel_rfl) (by kernel_rfl) (by kernel_rfl) (by decide) (by kernel_rfl) ?_
     refine WDi (NPt (NPb (NPt (NPb hN)))) 20 A xs.length c 73 .i64 ((f + r : Nat) : Int) b114 0 (f + r) 1 (by kernel_rfl) (by kernel_rfl) am (by omega) (by omega) (f + r) (by first | (simp; done) | omega) ab ?_
     obtain ⟨cA, bv, bw, aL, bx⟩ := stoE_run Try.prog (Go.Tw.encI_len _) bu 0 am rfl aK (f + r) 0 (x := ah) al aq [.int .u32 aq] rfl 44 (.int .u32 aq) ((f + r)) rfl rfl rfl (by first | rfl | simp [Nat.add_assoc])
     have aM := ab.trans bw (fun x_ hx_ => .inl hx_)
     refine WD.semU 21 (Instr.storeAt 44 (.pointer (some ⟨b114, (f + r), none⟩)) (.int .u32 aq)) (by kernel_rfl) (by kernel_rfl) bv aM ?_
     have ci := own_count (Go.Tw.encI_len _) (by decide) aL
     obtain ⟨ce, aU⟩ := get_some (xs := L.set (f + r) aq) (i := (f + (2 * r + 1))) (by omega)
     obtain ⟨b154, aV⟩ := own_addr (by decide) (Go.Tw.encI_len _) aL aU
     refine WDi (NPt (NPb (NPt (NPb hN)))) 22 A xs.length c 74 .i64 ((f + (2 * r + 1) : Nat) : Int) b154 0 (f + (2 * r + 1)) 1 (by kernel_rfl) (by kernel_rfl) aV (by omega) (by omega) (f + (2 * r + 1)) (by first | (simp; done) | omega) aM ?_
     obtain ⟨cB, bz, bA, bB, bC⟩ := stoE_run Try.prog (Go.Tw.encI_len _) bx 0 aV rfl aL (f + (2 * r + 1)) 0 (x := ce) aU ah [.int .u32 ah] rfl 44 (.int .u32 ah) ((f + (2 * r + 1))) rfl rfl rfl (by first | rfl | simp [Nat.add_assoc])
     have bD := aM.trans bA (fun x_ hx_ => .inl hx_)
     refine WD.semU 23 (Instr.storeAt 44 (.pointer (some ⟨b154, (f + (2 * r + 1)), none⟩)) (.int .u32 ah)) (by kernel_rfl) (by kernel_rfl) bz bD ?_
     refine WD.done (by kernel_rfl) ?_
     refine QXn (bs _ _ ?_)
     refine WCg (WLq 2 [(8, .int .i64 ((2 * r + 1 : Nat) : Int)), (75, .int .i64 ((2 * r + 1 : Nat) : Int))] ?_)
     refine WLd rfl ?_
     refine QXb ?_
     refine QXn ?_
     have bE := bC.pick [] [0] rfl rfl
     refine fun a_ ha_ => hK4 _ _ _ ?_ ⟨2 * r + 1, (L.set (f + r) aq).set (f + (2 * r + 1)) ah, rfl, rfl, bE, bB, by omega, (set2_len _ _ _ _ _).trans hL, by rw [← hsd, sift_c1 (by omega) ar al (fun _ x_ hx_ => by rw [av] at hx_; cases hx_; exact aG) (by omega), if_pos a9]⟩ a_ (ha_.weaken (sub_of ⟨rfl, rfl, rfl, rfl, rfl, trivial⟩))
     omega
  ·
   have co : (hi : Int) ≤ ((2 * r + 2 : Nat) : Int) := by have q_ := of_decide_eq_false a3; omega
   refine WDq (NPt (NPt (NPb (NPt (NPb hN))))) 5 22 (undef) aa ?_
   refine WDq (NPt (NPt (NPb (NPt (NPb hN))))) 6 23 (undef) aa ?_
   refine WDq (NPt (NPt (NPb (NPt (NPb hN))))) 7 24 (undef) aa ?_
   refine WDq (NPt (NPt (NPb (NPt (NPb hN))))) 8 25 (undef) aa ?_
   refine WDq (NPt (NPt (NPb (NPt (NPb hN))))) 9 26 (undef) aa ?_
   refine WDq (NPt (NPt (NPb (NPt (NPb hN))))) 10 27 (undef) aa ?_
   refine WDq (NPt (NPt (NPb (NPt (NPb hN))))) 11 28 (undef) aa ?_
   refine WDq (NPt (NPt (NPb (NPt (NPb hN))))) 12 29 (undef) aa ?_
   refine WDq (NPt (NPt (NPb (NPt (NPb hN))))) 13 30 (undef) aa ?_
   refine WDq (NPt (NPt (NPb (NPt (NPb hN))))) 14 31 (undef) aa ?_
   refine WDq (NPt (NPt (NPb (NPt (NPb hN))))) 15 32 (undef) aa ?_
   refine WDq (NPt (NPt (NPb (NPt (NPb hN))))) 16 33 (undef) aa ?_
   refine WDq (NPt (NPt (NPb (NPt (NPb hN))))) 17 34 (undef) aa ?_
   refine WDq (NPt (NPt (NPb (NPt (NPb hN))))) 18 35 (undef) aa ?_
   refine WDq (NPt (NPt (NPb (NPt (NPb hN))))) 19 36 (.bool false) aa ?_
   refine WD.done (by kernel_rfl) ?_
   refine QXn (bb _ _ ?_)
   refine WCf rfl (WC.skip (QXn (a2 _ _ ?_)))
   refine WCs (fun cC bF => ?_)
   refine WCs (fun cD bG => ?_)
   refine WC.drawC bc [] (by kernel_rfl) (fun cf bH bI af => ?_)
   have ak := own_fr ap bH (by simp)
   refine WDq (NPt (NPt (NPb (NPt (NPb hN))))) 0 39 (.slice A xs.length c) af ?_
   refine WDq (NPt (NPt (NPb (NPt (NPb hN))))) 1 40 (.int .i64 (f : Int)) af ?_
   refine WDq (NPt (NPt (NPb (NPt (NPb hN))))) 2 41 (.int .i64 (r : Int)) af ?_
   refine WDq (NPt (NPt (NPb (NPt (NPb hN))))) 3 42 (.int .i64 (IntKind.i64.wrap ((f : Int) + (r : Int)))) af ?_
   refine WD.recast (show (.int .i64 (IntKind.i64.wrap ((f : Int) + (r : Int))) : Value) = .int .i64 ((f + r : Nat) : Int) from by rw [wrap_in_i64 _ (by omega) (by omega)]; first | rfl | (congr 1; done) | (congr 1; omega)) ?_
   have cj := own_count (Go.Tw.encI_len _) (by decide) ak
   obtain ⟨ai, an⟩ := get_some (xs := L) (i := (f + r)) (by omega)
   obtain ⟨b175, ao⟩ := own_addr (by decide) (Go.Tw.encI_len _) ak an
   refine WDi (NPt (NPt (NPb (NPt (NPb hN))))) 4 A xs.length c 43 .i64 ((f + r : Nat) : Int) b175 0 (f + r) 1 (by kernel_rfl) (by kernel_rfl) ao (by omega) (by omega) (f + r) (by first | (simp; done) | omega) af ?_
   refine WDq (NPt (NPt (NPb (NPt (NPb hN))))) 6 45 (.slice A xs.length c) af ?_
   refine WDq (NPt (NPt (NPb (NPt (NPb hN))))) 7 46 (.int .i64 (f : Int)) af ?_
   refine WDq (NPt (NPt (NPb (NPt (NPb hN))))) 8 47 (.int .i64 ((2 * r + 1 : Nat) : Int)) af ?_
   refine WDq (NPt (NPt (NPb (NPt (NPb hN))))) 9 48 (.int .i64 (IntKind.i64.wrap ((f : Int) + ((2 * r + 1 : Nat) : Int)))) af ?_
   refine WD.recast (show (.int .i64 (IntKind.i64.wrap ((f : Int) + ((2 * r + 1 : Nat) : Int))) : Value) = .int .i64 ((f + (2 * r + 1) : Nat) : Int) from by rw [wrap_in_i64 _ (by omega) (by omega)]; first | rfl | (congr 1; done) | (congr 1; omega)) ?_
   have ck := own_count (Go.Tw.encI_len _) (by decide) ak
   obtain ⟨aj, ay⟩ := get_some (xs := L) (i := (f + (2 * r + 1))) (by omega)
   obtain ⟨b180, aA⟩ := own_addr (by decide) (Go.Tw.encI_len _) ak ay
   refine WDi (NPt (NPt (NPb (NPt (NPb hN))))) 10 A xs.length c 49 .i64 ((f + (2 * r + 1) : Nat) : Int) b180 0 (f + (2 * r + 1)) 1 (by kernel_rfl) (by kernel_rfl) aA (by omega) (by omega) (f + (2 * r + 1)) (by first | (simp; done) | omega) af ?_
   refine WDm (NPt (NPt (NPb (NPt (NPb hN))))) 5 44 (.pointer (some ⟨b175, (f + r), none⟩)) (.int .u32 ai) 44 (fun _ hS_ => run_load1 rfl (by simpa [Nat.add_assoc] using Rd.cell (own_rd (own_fr ak hS_ (by simp)) (Go.Tw.encI_len _) (by decide)) ao an 0 _ rfl)) af ?_
   refine WDm (NPt (NPt (NPb (NPt (NPb hN))))) 11 44 (.pointer (some ⟨b180, (f + (2 * r + 1)), none⟩)) (.int .u32 aj) 50 (fun _ hS_ => run_load1 rfl (by simpa [Nat.add_assoc] using Rd.cell (own_rd (own_fr ak hS_ (by simp)) (Go.Tw.encI_len _) (by decide)) aA ay 0 _ rfl)) af ?_
   refine WD.call 12 (by kernel_rfl) rfl rfl rfl rfl rfl (by kernel_rfl) (Less_ct ai aj cf) ?_
   rintro _ cE ⟨rfl, aN⟩
   have aW := af.trans aN (by simp)
   refine ⟨_, rfl, aW, ?_⟩
   have aX := bI.call aN
   have aY := own_fr ak aN (by simp)
   refine WDq (NPt (NPt (NPb (NPt (NPb hN))))) 13 52 (.bool (!(decide (ai < aj)))) aW ?_
   refine WD.done (by kernel_rfl) ?_
   refine QXn (bG _ _ ?_)
   refine WCa 52 (!(decide (ai < aj))) rfl (fun az => ?_) (fun az => ?_)
   ·
    have ba : (decide (ai < aj)) = false := by first | (simpa only [Bool.not_eq_true', Bool.not_eq_false'] using az) | simpa using az
    refine WCt rfl ?_
    refine WC.ret ?_
    refine QXr ?_
    refine QXk ?_
    refine QXr ?_
    refine QXk ?_
    refine (hret _ _ _ rfl ?_).1
    exact ⟨L, rfl, aX.fr, aY, by rw [← hsd, sift_c1 (by omega) ay an (fun h_ => by omega) (by omega), if_neg (by rw [ba]; simp)]⟩
   ·
    have ba : (decide (ai < aj)) = true := by first | (simpa only [Bool.not_eq_true', Bool.not_eq_false'] using az) | simpa using az
    refine WCf rfl (WC.skip (QXn (bF _ _ ?_)))
    refine WCs (fun cF bJ => ?_)
    refine WC.drawC aX (blk (.slice A xs.length c)) (by kernel_rfl) (fun cG bK bL ac => ?_)
    have aO := own_fr aY bK (by simp)
    refine WDq (NPt (NPb (NPt (NPb hN)))) 0 53 (.slice A xs.length c) ac ?_
    refine WDq (NPt (NPb (NPt (NPb hN)))) 1 54 (.int .i64 (f : Int)) ac ?_
    refine WDq (NPt (NPb (NPt (NPb hN)))) 2 55 (.int .i64 (r : Int)) ac ?_
    refine WDq (NPt (NPb (NPt (NPb hN)))) 3 56 (.int .i64 (IntKind.i64.wrap ((f : Int) + (r : Int)))) ac ?_
    refine WD.recast (show (.int .i64 (IntKind.i64.wrap ((f : Int) + (r : Int))) : Value) = .int .i64 ((f + r : Nat) : Int) from by rw [wrap_in_i64 _ (by omega) (by omega)]; first | rfl | (congr 1; done) | (congr 1; omega)) ?_
    refine WDq (NPt (NPb (NPt (NPb hN)))) 4 57 (.slice A xs.length c) ac ?_
    refine WDq (NPt (NPb (NPt (NPb hN)))) 5 58 (.int .i64 (f : Int)) ac ?_
    refine WDq (NPt (NPb (NPt (NPb hN)))) 6 59 (.int .i64 ((2 * r + 1 : Nat) : Int)) ac ?_
    refine WDq (NPt (NPb (NPt (NPb hN)))) 7 60 (.int .i64 (IntKind.i64.wrap ((f : Int) + ((2 * r + 1 : Nat) : Int)))) ac ?_
    refine WD.recast (show (.int .i64 (IntKind.i64.wrap ((f : Int) + ((2 * r + 1 : Nat) : Int))) : Value) = .int .i64 ((f + (2 * r + 1) : Nat) : Int) from by rw [wrap_in_i64 _ (by omega) (by omega)]; first | rfl | (congr 1; done) | (congr 1; omega)) ?_
    refine WDq (NPt (NPb (NPt (NPb hN)))) 8 61 (.slice A xs.length c) ac ?_
    refine WDq (NPt (NPb (NPt (NPb hN)))) 9 62 (.int .i64 (f : Int)) ac ?_
    refine WDq (NPt (NPb (NPt (NPb hN)))) 10 63 (.int .i64 ((2 * r + 1 : Nat) : Int)) ac ?_
    refine WDq (NPt (NPb (NPt (NPb hN)))) 11 64 (.int .i64 (IntKind.i64.wrap ((f : Int) + ((2 * r + 1 : Nat) : Int)))) ac ?_
    refine WD.recast (show (.int .i64 (IntKind.i64.wrap ((f : Int) + ((2 * r + 1 : Nat) : Int))) : Value) = .int .i64 ((f + (2 * r + 1) : Nat) : Int) from by rw [wrap_in_i64 _ (by omega) (by omega)]; first | rfl | (congr 1; done) | (congr 1; omega)) ?_
    refine WDi (NPt (NPb (NPt (NPb hN)))) 12 A xs.length c 65 .i64 ((f + (2 * r + 1) : Nat) : Int) b180 0 (f + (2 * r + 1)) 1 (by kernel_rfl) (by kernel_rfl) aA (by omega) (by omega) (f + (2 * r + 1)) (by first | (simp; done) | omega) ac ?_
    refine WDq (NPt (NPb (NPt (NPb hN)))) 14 67 (.slice A xs.length c) ac ?_
    refine WDq (NPt (NPb (NPt (NPb hN)))) 15 68 (.int .i64 (f : Int)) ac ?_
    refine WDq (NPt (NPb (NPt (NPb hN)))) 16 69 (.int .i64 (r : Int)) ac ?_
    refine WDq (NPt (NPb (NPt (NPb hN)))) 17 70 (.int .i64 (IntKind.i64.wrap ((f : Int) + (r : Int)))) ac ?_
    refine WD.recast (show (.int .i64 (IntKind.i64.wrap ((f : Int) + (r : Int))) : Value) = .int .i64 ((f + r : Nat) : Int) from by rw [wrap_in_i64 _ (by omega) (by omega)]; first | rfl | (congr 1; done) | (congr 1; omega)) ?_
    refine WDi (NPt (NPb (NPt (NPb hN)))) 18 A xs.length c 71 .i64 ((f + r : Nat) : Int) b175 0 (f + r) 1 (by kernel_rfl) (by kernel_rfl) ao (by omega) (by omega) (f + r) (by first | (simp; done) | omega) ac ?_
    refine two_loads 13 19 (Instr.loadAt 44 (.pointer (some ⟨b180, (f + (2 * r + 1)), none⟩))) (Instr.loadAt 44 (.pointer (some ⟨b175, (f + r), none⟩))) 66 72 (.int .u32 aj) (.int .u32 ai) (by kernel_rfl) (by kernel_rfl) (by kernel_rfl) (run_load1 rfl (by simpa [Nat.add_assoc] using Rd.cell (own_rd aO (Go.Tw.encI_len _) (by decide)) aA ay 0 _ rfl)) (run_load1 rfl (by simpa [Nat.add_assoc] using Rd.cell (own_rd aO (Go.Tw.encI_len _) (by decide)) ao an 0 _ rfl)) ac (by kernel_rfl) (by kernel_rfl) (by kernel_rfl) (by kernel_rfl) (by decide) (by kernel_rfl) ?_
    refine WDi (NPt (NPb (NPt (NPb hN)))) 20 A xs.length c 73 .i64 ((f + r : Nat) : Int) b175 0 (f + r) 1 (by kernel_rfl) (by kernel_rfl) ao (by omega) (by omega) (f + r) (by first | (simp; done) | omega) ac ?_
    obtain ⟨cH, bM, bN, aP, bO⟩ := stoE_run Try.prog (Go.Tw.encI_len _) bL 0 ao rfl aO (f + r) 0 (x := ai) an aj [.int .u32 aj] rfl 44 (.int .u32 aj) ((f + r)) rfl rfl rfl (by first | rfl | simp [Nat.add_assoc])
    have aQ := ac.trans bN (fun x_ hx_ => .inl hx_)
    refine WD.semU 21 (Instr.storeAt 44 (.pointer (some ⟨b175, (f + r), none⟩)) (.int .u32 aj)) (by kernel_rfl) (by kernel_rfl) bM aQ ?_
    have cl := own_count (Go.Tw.encI_len _) (by decide) aP
    obtain ⟨cg, aZ⟩ := get_some (xs := L.set (f + r) aj) (i := (f + (2 * r + 1))) (by omega)
    obtain ⟨b216, a0⟩ := own_addr (by decide) (Go.Tw.encI_len _) aP aZ
    refine WDi (NPt (NPb (NPt (NPb hN)))) 22 A xs.length c 74 .i64 ((f + (2 * r + 1) : Nat) : Int) b216 0 (f + (2 * r + 1)) 1 (by kernel_rfl) (by kernel_rfl) a0 (by omega) (by omega) (f + (2 * r + 1)) (by first | (simp; done) | omega) aQ ?_
    obtain ⟨cI, bP, bQ, bR, bS⟩ := stoE_run Try.prog (Go.Tw.encI_len _) bO 0 a0 rfl aP (f + (2 * r + 1)) 0 (x := cg) aZ ai [.int .u32 ai] rfl 44 (.int .u32 ai) ((f + (2 * r + 1))) rfl rfl rfl (by first | rfl | simp [Nat.add_assoc])
    have bT := aQ.trans bQ (fun x_ hx_ => .inl hx_)
    refine WD.semU 23 (Instr.storeAt 44 (.pointer (some ⟨b216, (f + (2 * r + 1)), none⟩)) (.int .u32 ai)) (by kernel_rfl) (by kernel_rfl) bP bT ?_
    refine WD.done (by kernel_rfl) ?_
    refine QXn (bJ _ _ ?_)
    refine WCg (WLq 2 [(8, .int .i64 ((2 * r + 1 : Nat) : Int)), (75, .int .i64 ((2 * r + 1 : Nat) : Int))] ?_)
    refine WLd rfl ?_
    refine QXb ?_
    refine QXn ?_
    have bU := bS.pick [] [0] rfl rfl
    refine fun a_ ha_ => hK4 _ _ _ ?_ ⟨2 * r + 1, (L.set (f + r) aj).set (f + (2 * r + 1)) ai, rfl, rfl, bU, bR, by omega, (set2_len _ _ _ _ _).trans hL, by rw [← hsd, sift_c1 (by omega) ay an (fun h_ => by omega) (by omega), if_pos ba]⟩ a_ (ha_.weaken (sub_of ⟨rfl, rfl, rfl, rfl, rfl, trivial⟩))
    omega

theorem sift_n (A : Option Addr) (c n : Nat) (xs : List Int) (hn : xs.length = n) (lo hi f : Nat) (w : World) (hown : w.ownsRow 0 44 1 (.slice A n c) n (xs.flatMap (Go.Tw.encI .u32))) (hlen : n ≤ 1099511627776) (hlo : lo ≤ n) (hfh : f + hi ≤ n) : Calls Try.prog 90 #[.slice A n c, .int .i64 (lo : Int), .int .i64 (hi : Int), .int .i64 (f : Int)] w fun e w' => ∃ ys : List Int, e = .returned (.tuple #[]) ∧ Fr w w' (blk (.slice A n c)) ∧ w'.ownsRow 0 44 1 (.slice A n c) n (ys.flatMap (Go.Tw.encI .u32)) ∧ aOf ys = siftDown ltInt hi f lo (aOf xs) := by subst hn; exact sift_ct A c xs lo hi f w hown hlen hlo hfh
set_option maxHeartbeats 1000000 in
theorem heap_ct (A : Option Addr) (c : Nat) (xs : List Int) (a b : Nat)  (w : World) (hown : w.ownsRow 0 44 1 (.slice A xs.length c) xs.length (xs.flatMap (Go.Tw.encI .u32))) (hlen : xs.length ≤ 1099511627776) (hab : a < b) (hb : b ≤ xs.length) : Calls Try.prog 71 #[.slice A xs.length c, .int .i64 (a : Int), .int .i64 (b : Int)] w fun e w' => ∃ ys : List Int, e = .returned (.tuple #[]) ∧ Fr w w' (blk (.slice A xs.length c)) ∧ w'.ownsRow 0 44 1 (.slice A xs.length c) xs.length (ys.flatMap (Go.Tw.encI .u32)) ∧ aOf ys = heapSort ltInt (aOf xs) a b := by
 refine enterD (n := 56) Try.func71 rfl rfl (Nat.le_of_ble_eq_true rfl) ?_
 intro Q0 hN hret hret'
 have hcc_ := own_le hown
 have hC := Cx.start1 w (own_lt hown)
 have hLs_ := own_count (Go.Tw.encI_len .u32) (by decide) hown
 refine WCs (fun K1 hK2 => ?_)
 refine WCg (WLq 2 [(6, .int .i64 (a : Int)), (11, .int .i64 (a : Int))] (WLd rfl (QXn (hK2 _ _ ?_))))
 refine WCs (fun K3 hK4 => ?_)
 refine WCg (WLq 1 [(7, .int .i64 0)] (WLd rfl (QXn (hK4 _ _ ?_))))
 refine WCs (fun K5 hK6 => ?_)
 refine WCg (WLq 3 [(14, .int .i64 (IntKind.i64.wrap ((b : Int) - (a : Int)))), (13, .int .i64 (a : Int)), (12, .int .i64 (b : Int))] ?_)
 refine WLt (show (.int .i64 (IntKind.i64.wrap ((b : Int) - (a : Int))) : Value) = .int .i64 ((b - a : Nat) : Int) from by rw [wrap_in_i64 _ (by omega) (by omega)] <;> first | rfl | (congr 1; done) | (congr 1; omega)) ?_
 refine WLq 1 [(8, .int .i64 ((b - a : Nat) : Int))] (WLd rfl (QXn (hK6 _ _ ?_)))
 refine WCs (fun K7 hK8 => ?_)
 refine WCs (fun K9 an => ?_)
 refine WCg (WLq 2 [(16, .int .i64 (IntKind.i64.wrap (((b - a : Nat) : Int) - 1))), (15, .int .i64 ((b - a : Nat) : Int))] ?_)
 refine WLt (show (.int .i64 (IntKind.i64.wrap (((b - a : Nat) : Int) - 1)) : Value) = .int .i64 ((b - a - 1 : Nat) : Int) from by rw [wrap_in_i64 _ (by omega) (by omega)] <;> first | rfl | (congr 1; done) | (congr 1; omega)) ?_
 refine WLq 1 [(17, .int .i64 (IntKind.i64.wrap (Int.tdiv ((b - a - 1 : Nat) : Int) 2)))] ?_
 refine WLt (show (.int .i64 (IntKind.i64.wrap (Int.tdiv ((b - a - 1 : Nat) : Int) 2)) : Value) = .int .i64 ((((b - a - 1) / 2 + 1 : Nat) : Int) - 1) from by rw [Int.tdiv_eq_ediv_of_nonneg (by omega), wrap_in_i64 _ (by omega) (by omega)] <;> first | rfl | (congr 1; done) | (congr 1; omega)) ?_
 refine WLq 1 [(9, .int .i64 ((((b - a - 1) / 2 + 1 : Nat) : Int) - 1))] (WLd rfl (QXn (an _ _ ?_)))
 refine WC.block ?_
 refine WC.loop (fun m_ E_ w_ => ∃ (k : Nat) (L : List Int), m_ = k + 1 ∧ E_ = [(0, .slice A xs.length c), (1, .int .i64 (a : Int)), (2, .int .i64 (b : Int)), (6, .int .i64 (a : Int)), (7, .int .i64 0), (8, .int .i64 ((b - a : Nat) : Int)), (9, .int .i64 ((k : Int) - 1))] ∧ Cx w (blk (.slice A xs.length c)) w_ [] [blk (.slice A xs.length c)] ∧ World.ownsRow w_ 0 44 1 (.slice A xs.length c) xs.length (L.flatMap (Go.Tw.encI .u32)) ∧ (k ≤ (b - a - 1) / 2 + 1 ∧ L.length = xs.length ∧ heapBuild ltInt (b - a) a k (aOf L) = heapBuild ltInt (b - a) a ((b - a - 1) / 2 + 1) (aOf xs))) ⟨_, _, ⟨(b - a - 1) / 2 + 1, xs, rfl, rfl, hC, hown, Nat.le_refl _, rfl, rfl⟩, sub_of ⟨rfl, rfl, rfl, rfl, rfl, rfl, rfl, trivial⟩⟩ (fun m14 E_ aZ a9 aB aC => ?_)
 obtain ⟨k, L, rfl, rfl, ao, hrow, hk, hL, hhb⟩ := aC
 refine WCs (fun ba ap => ?_)
 refine WCs (fun bb aq => ?_)
 refine WCg (WLq 2 [(19, .bool (decide (((k : Int) - 1) ≥ 0))), (18, .int .i64 ((k : Int) - 1))] (WLd rfl (QXn (aq _ _ ?_))))
 refine WCa 19 (decide (((k : Int) - 1) ≥ 0)) rfl (fun ag => ?_) (fun ag => ?_)
 ·
  have a0 : (0 : Int) ≤ ((k : Int) - 1) := by have q_ := of_decide_eq_true ag; omega
  refine WCt rfl ?_
  refine WC.skip ?_
  refine QXn (ap _ _ ?_)
  refine WCs (fun bc aD => ?_)
  refine WC.block ?_
  refine WCg (WLq 4 [(25, .int .i64 (a : Int)), (24, .int .i64 ((b - a : Nat) : Int)), (23, .int .i64 ((k : Int) - 1)), (22, .slice A xs.length c)] ?_)
  refine WL.know 23 (.int .i64 ((k : Int) - 1)) (.int .i64 ((k - 1 : Nat) : Int)) rfl (congrArg (Value.int .i64) (by omega)) ?_
  refine WLc rfl rfl rfl rfl rfl (by kernel_rfl) (sift_n A c xs.length L (own_count (Go.Tw.encI_len .u32) (by decide) hrow) (k - 1) (b - a) a aZ hrow hlen (by omega) (by omega)) ?_
  rintro _ bd ⟨ys25, rfl, aE, ac, aF⟩
  have aG := ao.callF 0 rfl aE (fun _ h_ => .inl h_) (own_lt ac)
  have a1 := own_count (Go.Tw.encI_len .u32) (by decide) ac
  refine ⟨_, rfl, ?_⟩
  refine WLd rfl ?_
  refine QXb ?_
  refine QXn (aD _ _ ?_)
  refine WCg (WLq 2 [(21, .int .i64 (IntKind.i64.wrap (((k : Int) - 1) - 1))), (20, .int .i64 ((k : Int) - 1))] ?_)
  refine WLt (show (.int .i64 (IntKind.i64.wrap (((k : Int) - 1) - 1)) : Value) = .int .i64 (((k - 1 : Nat) : Int) - 1) from by rw [wrap_in_i64 _ (by omega) (by omega)] <;> first | rfl | (congr 1; done) | (congr 1; omega)) ?_
  refine WLq 1 [(9, .int .i64 (((k - 1 : Nat) : Int) - 1))] ?_
  refine WLd rfl ?_
  refine QXn ?_
  have aH := aG.pick [] [0] rfl rfl
  refine fun a_ ha_ => aB _ _ _ ?_ ⟨k - 1, ys25, rfl, rfl, aH, ac, by omega, (own_count (Go.Tw.encI_len .u32) (by decide) ac), by rw [← hhb, hb_go (k := k) (by omega), ← aF]⟩ a_ (ha_.weaken (sub_of ⟨rfl, rfl, rfl, rfl, rfl, rfl, rfl, trivial⟩))
  omega
 ·
  have a0 : ((k : Int) - 1) < 0 := by have q_ := of_decide_eq_false ag; omega
  refine WCf rfl ?_
  refine WC.exit ?_
  refine QXe ?_
  refine QXe ?_
  refine QX.block_hit ?_
  refine QXn (hK8 _ _ ?_)
  refine WCs (fun be ar => ?_)
  refine WCg (WLq 2 [(28, .int .i64 (IntKind.i64.wrap (((b - a : Nat) : Int) - 1))), (27, .int .i64 ((b - a : Nat) : Int))] ?_)
  refine WLt (show (.int .i64 (IntKind.i64.wrap (((b - a : Nat) : Int) - 1)) : Value) = .int .i64 (((b - a : Nat) : Int) - 1) from by rw [wrap_in_i64 _ (by omega) (by omega)] <;> first | rfl | (congr 1; done) | (congr 1; omega)) ?_
  refine WLq 1 [(10, .int .i64 (((b - a : Nat) : Int) - 1))] (WLd rfl (QXn (ar _ _ ?_)))
  refine WC.block ?_
  refine WC.loop (fun m_ E_ w_ => ∃ (k2 : Nat) (L3 : List Int), m_ = k2 + 1 ∧ E_ = [(0, .slice A xs.length c), (1, .int .i64 (a : Int)), (2, .int .i64 (b : Int)), (6, .int .i64 (a : Int)), (7, .int .i64 0), (8, .int .i64 ((b - a : Nat) : Int)), (10, .int .i64 ((k2 : Int) - 1))] ∧ Cx w (blk (.slice A xs.length c)) w_ [] [blk (.slice A xs.length c)] ∧ World.ownsRow w_ 0 44 1 (.slice A xs.length c) xs.length (L3.flatMap (Go.Tw.encI .u32)) ∧ (k2 ≤ b - a ∧ L3.length = xs.length ∧ heapPop ltInt a k2 (aOf L3) = heapPop ltInt a (b - a) (aOf L))) ⟨_, _, ⟨b - a, L, rfl, rfl, ao, hrow, Nat.le_refl _, hL, rfl⟩, sub_of ⟨rfl, rfl, rfl, rfl, rfl, rfl, rfl, trivial⟩⟩ (fun m37 E_ bf bg aI aJ => ?_)
  obtain ⟨k2, L3, rfl, rfl, au, hrow3, hk2, hL3, hhp⟩ := aJ
  refine WCs (fun bh av => ?_)
  refine WCs (fun bi aw => ?_)
  refine WCg (WLq 2 [(30, .bool (decide (((k2 : Int) - 1) ≥ 0))), (29, .int .i64 ((k2 : Int) - 1))] (WLd rfl (QXn (aw _ _ ?_))))
  refine WCa 30 (decide (((k2 : Int) - 1) ≥ 0)) rfl (fun ah => ?_) (fun ah => ?_)
  ·
   have a2 : (0 : Int) ≤ ((k2 : Int) - 1) := by have q_ := of_decide_eq_true ah; omega
   refine WCt rfl ?_
   refine WC.skip ?_
   refine QXn (av _ _ ?_)
   refine WCs (fun bj aK => ?_)
   refine WC.block ?_
   refine WCs (fun bk aL => ?_)
   refine WC.drawC au (blk (.slice A xs.length c)) (by kernel_rfl) (fun bl aM aN aa => ?_)
   have ab := own_fr hrow3 aM (by simp)
   refine WDq (NPt (NPb (NPt (NPt (NPb hN))))) 0 33 (.slice A xs.length c) aa ?_
   refine WDq (NPt (NPb (NPt (NPt (NPb hN))))) 1 34 (.int .i64 (a : Int)) aa ?_
   refine WDq (NPt (NPb (NPt (NPt (NPb hN))))) 2 35 (.slice A xs.length c) aa ?_
   refine WDq (NPt (NPb (NPt (NPt (NPb hN))))) 3 36 (.int .i64 (a : Int)) aa ?_
   refine WDq (NPt (NPb (NPt (NPt (NPb hN))))) 4 37 (.int .i64 ((k2 : Int) - 1)) aa ?_
   refine WDq (NPt (NPb (NPt (NPt (NPb hN))))) 5 38 (.int .i64 (IntKind.i64.wrap ((a : Int) + ((k2 : Int) - 1)))) aa ?_
   refine WD.recast (show (.int .i64 (IntKind.i64.wrap ((a : Int) + ((k2 : Int) - 1))) : Value) = .int .i64 ((a + (k2 - 1) : Nat) : Int) from by rw [wrap_in_i64 _ (by omega) (by omega)] <;> first | rfl | (congr 1; done) | (congr 1; omega)) ?_
   refine WDq (NPt (NPb (NPt (NPt (NPb hN))))) 6 39 (.slice A xs.length c) aa ?_
   refine WDq (NPt (NPb (NPt (NPt (NPb hN))))) 7 40 (.int .i64 (a : Int)) aa ?_
   refine WDq (NPt (NPb (NPt (NPt (NPb hN))))) 8 41 (.int .i64 ((k2 : Int) - 1)) aa ?_
   refine WDq (NPt (NPb (NPt (NPt (NPb hN))))) 9 42 (.int .i64 (IntKind.i64.wrap ((a : Int) + ((k2 : Int) - 1)))) aa ?_
   refine WD.recast (show (.int .i64 (IntKind.i64.wrap ((a : Int) + ((k2 : Int) - 1))) : Value) = .int .i64 ((a + (k2 - 1) : Nat) : Int) from by rw [wrap_in_i64 _ (by omega) (by omega)] <;> first | rfl | (congr 1; done) | (congr 1; omega)) ?_
   have a3 := own_count (Go.Tw.encI_len _) (by decide) ab
   obtain ⟨ai, aj⟩ := get_some (xs := L3) (i := (a + (k2 - 1))) (by omega)
   obtain ⟨b56, ax⟩ := own_addr (by decide) (Go.Tw.encI_len _) ab aj
   refine WDi (NPt (NPb (NPt (NPt (NPb hN))))) 10 A xs.length c 43 .i64 ((a + (k2 - 1) : Nat) : Int) b56 0 (a + (k2 - 1)) 1 (by kernel_rfl) (by kernel_rfl) ax (by omega) (by omega) (a + (k2 - 1)) (by first | (simp; done) | omega) aa ?_
   refine WDq (NPt (NPb (NPt (NPt (NPb hN))))) 12 45 (.slice A xs.length c) aa ?_
   refine WDq (NPt (NPb (NPt (NPt (NPb hN))))) 13 46 (.int .i64 (a : Int)) aa ?_
   have a4 := own_count (Go.Tw.encI_len _) (by decide) ab
   obtain ⟨ak, ad⟩ := get_some (xs := L3) (i := a) (by omega)
   obtain ⟨b61, ae⟩ := own_addr (by decide) (Go.Tw.encI_len _) ab ad
   refine WDi (NPt (NPb (NPt (NPt (NPb hN))))) 14 A xs.length c 47 .i64 (a : Int) b61 0 a 1 (by kernel_rfl) (by kernel_rfl) ae (by omega) (by omega) a (by first | (simp; done) | omega) aa ?_
   refine two_loads 11 15 (Instr.loadAt 44 (.pointer (some ⟨b56, (a + (k2 - 1)), none⟩))) (Instr.loadAt 44 (.pointer (some ⟨b61, a, none⟩))) 44 48 (.int .u32 ai) (.int .u32 ak) (by kernel_rfl) (by kernel_rfl) (by kernel_rfl) (run_load1 rfl (by simpa [Nat.add_assoc] using Rd.cell (own_rd ab (Go.Tw.encI_len _) (by decide)) ax aj 0 _ rfl)) (run_load1 rfl (by simpa [Nat.add_assoc] using Rd.cell (own_rd ab (Go.Tw.encI_len _) (by decide)) ae ad 0 _ rfl)) aa (by kernel_rfl) (by kernel_rfl) (by kernel_rfl) (by kernel_rfl) (by decide) (by kernel_rfl) ?_
   refine WDi (NPt (NPb (NPt (NPt (NPb hN))))) 16 A xs.length c 49 .i64 (a : Int) b61 0 a 1 (by kernel_rfl) (by kernel_rfl) ae (by omega) (by omega) a (by first | (simp; done) | omega) aa ?_
   obtain ⟨bm, aO, aP, al, aQ⟩ := stoE_run Try.prog (Go.Tw.encI_len _) aN 0 ae rfl ab a 0 (x := ak) ad ai [.int .u32 ai] rfl 44 (.int .u32 ai) (a) rfl rfl rfl (by first | rfl | simp [Nat.add_assoc])
   have am := aa.trans aP (fun x_ hx_ => .inl hx_)
   refine WD.semU 17 (Instr.storeAt 44 (.pointer (some ⟨b61, a, none⟩)) (.int .u32 ai)) (by kernel_rfl) (by kernel_rfl) aO am ?_
   have a5 := own_count (Go.Tw.encI_len _) (by decide) al
   obtain ⟨a6, ay⟩ := get_some (xs := L3.set a ai) (i := (a + (k2 - 1))) (by omega)
   obtain ⟨b76, az⟩ := own_addr (by decide) (Go.Tw.encI_len _) al ay
   refine WDi (NPt (NPb (NPt (NPt (NPb hN))))) 18 A xs.length c 50 .i64 ((a + (k2 - 1) : Nat) : Int) b76 0 (a + (k2 - 1)) 1 (by kernel_rfl) (by kernel_rfl) az (by omega) (by omega) (a + (k2 - 1)) (by first | (simp; done) | omega) am ?_
   obtain ⟨a7, aR, aS, aA, aT⟩ := stoE_run Try.prog (Go.Tw.encI_len _) aQ 0 az rfl al (a + (k2 - 1)) 0 (x := a6) ay ak [.int .u32 ak] rfl 44 (.int .u32 ak) ((a + (k2 - 1))) rfl rfl rfl (by first | rfl | simp [Nat.add_assoc])
   have aU := am.trans aS (fun x_ hx_ => .inl hx_)
   refine WD.semU 19 (Instr.storeAt 44 (.pointer (some ⟨b76, (a + (k2 - 1)), none⟩)) (.int .u32 ak)) (by kernel_rfl) (by kernel_rfl) aR aU ?_
   refine WD.done (by kernel_rfl) ?_
   refine QXn (aL _ _ ?_)
   refine WCg (WLq 4 [(54, .int .i64 (a : Int)), (53, .int .i64 ((k2 : Int) - 1)), (52, .int .i64 0), (51, .slice A xs.length c)] ?_)
   refine WL.know 53 (.int .i64 ((k2 : Int) - 1)) (.int .i64 ((k2 - 1 : Nat) : Int)) rfl (congrArg (Value.int .i64) (by omega)) ?_
   refine WLc rfl rfl rfl rfl rfl (by kernel_rfl) (sift_n A c xs.length ((L3.set a ai).set (a + (k2 - 1)) ak) (own_count (Go.Tw.encI_len .u32) (by decide) aA) 0 (k2 - 1) a a7 aA hlen (by omega) (by omega)) ?_
   rintro _ bn ⟨ys86, rfl, aV, af, aW⟩
   have aX := aT.callF 0 rfl aV (fun _ h_ => .inl h_) (own_lt af)
   have a8 := own_count (Go.Tw.encI_len .u32) (by decide) af
   refine ⟨_, rfl, ?_⟩
   refine WLd rfl ?_
   refine QXb ?_
   refine QXn (aK _ _ ?_)
   refine WCg (WLq 2 [(32, .int .i64 (IntKind.i64.wrap (((k2 : Int) - 1) - 1))), (31, .int .i64 ((k2 : Int) - 1))] ?_)
   refine WLt (show (.int .i64 (IntKind.i64.wrap (((k2 : Int) - 1) - 1)) : Value) = .int .i64 (((k2 - 1 : Nat) : Int) - 1) from by rw [wrap_in_i64 _ (by omega) (by omega)] <;> first | rfl | (congr 1; done) | (congr 1; omega)) ?_
   refine WLq 1 [(10, .int .i64 (((k2 - 1 : Nat) : Int) - 1))] ?_
   refine WLd rfl ?_
   refine QXn ?_
   have aY := aX.pick [] [0] rfl rfl
   refine fun a_ ha_ => aI _ _ _ ?_ ⟨k2 - 1, ys86, rfl, rfl, aY, af, by omega, (own_count (Go.Tw.encI_len .u32) (by decide) af), by rw [← hhp, hp_go (k := k2) (by omega), aW, aSwp ad aj]⟩ a_ (ha_.weaken (sub_of ⟨rfl, rfl, rfl, rfl, rfl, rfl, rfl, trivial⟩))
   omega
  ·
   have a2 : ((k2 : Int) - 1) < 0 := by have q_ := of_decide_eq_false ah; omega
   refine WCf rfl ?_
   refine WC.exit ?_
   refine QXe ?_
   refine QXe ?_
   refine QX.block_hit ?_
   refine (hret _ _ _ rfl ?_).2
   clear hN hret hret' aw av ar aq ap an hK8 hK6 hK4 hK2
   obtain rfl : k = 0 := by omega
   obtain rfl : k2 = 0 := by omega
   exact ⟨L3, rfl, au.fr, hrow3, by show aOf L3 = heapPop ltInt a (b - a) (heapBuild ltInt (b - a) a ((b - a - 1) / 2 + 1) (aOf xs)); rw [← hhb]; exact hhp⟩

theorem heap_n (A : Option Addr) (c n : Nat) (xs : List Int) (hn : xs.length = n) (a b : Nat) (w : World) (hown : w.ownsRow 0 44 1 (.slice A n c) n (xs.flatMap (Go.Tw.encI .u32))) (hlen : n ≤ 1099511627776) (hab : a < b) (hb : b ≤ n) : Calls Try.prog 71 #[.slice A n c, .int .i64 (a : Int), .int .i64 (b : Int)] w fun e w' => ∃ ys : List Int, e = .returned (.tuple #[]) ∧ Fr w w' (blk (.slice A n c)) ∧ w'.ownsRow 0 44 1 (.slice A n c) n (ys.flatMap (Go.Tw.encI .u32)) ∧ aOf ys = heapSort ltInt (aOf xs) a b := by subst hn; exact heap_ct A c xs a b w hown hlen hab hb
end Go.Proofs.Ytmahghppojbeoaa
