/- Contracts of functions of the program, each proved by a walk through its code; conditions stand in the statements. -/
import Derived.Test.YtfligklljkcbfaaGreatDoorStBB16
import Derived.Sort.AssemblyPlain
namespace Go.Proofs.YtfligklljkcbfaaGreatDoor
set_option linter.unusedSimpArgs false
set_option linter.unusedVariables false
set_option linter.unusedSectionVars false
open Go Go.RowKit Go.Tw
set_option linter.unusedVariables false
set_option maxRecDepth 20000
open Go.Sort
set_option maxHeartbeats 1000000 in
theorem peq_ct (A : Option Addr) (c : Nat) (xs : List Int) (a b p : Nat)  (w : World) (hown : w.ownsRow 0 40 1 (.slice A xs.length c) xs.length (xs.flatMap (Go.Tw.encI .u32))) (hlen : xs.length ≤ 1099511627776) (hap : a ≤ p) (hpb : p < b) (hb : b ≤ xs.length) : Calls Tryz.prog 104 #[.slice A xs.length c, I6 (a : Int), I6 (b : Int), I6 (p : Int)] w fun e w' => ∃ ys : List Int, e = .returned (I6 ((partitionEqual ltInt (aOf xs) a b p).1 : Int)) ∧ Fr w w' (blk (.slice A xs.length c)) ∧ w'.ownsRow 0 40 1 (.slice A xs.length c) xs.length (ys.flatMap (Go.Tw.encI .u32)) ∧ aOf ys = (partitionEqual ltInt (aOf xs) a b p).2 := by
 refine enterD (n := 84) Tryz.func104 rfl rfl (Nat.le_of_ble_eq_true rfl) ?_
 intro Q0 hN hret hret'
 have hcc_ := own_le hown
 have hC := Cx.start1 w (own_lt hown)
 have hLs_ := own_count (Go.Tw.encI_len .u32) (by decide) hown
 refine WCs (fun K1 hK2 => WCg (WLq 1 [(8, I6 0)] (WLd rfl (QXn (hK2 _ _ (WCs (fun K3 hK4 => WC.drawC hC (blk (.slice A xs.length c)) (by kernel_rfl) (fun w5 hF6 hC7 hS8 => ?_))))))))
 have ho9 := own_fr hown hF6 (by simp)
 refine WDx 6 [(0, 11, .slice A xs.length c), (1, 12, I6 (a : Int)), (2, 13, .slice A xs.length c), (3, 14, I6 (p : Int)), (4, 15, .slice A xs.length c), (5, 16, I6 (p : Int))] hS8 ?_
 have b4 := own_count (Go.Tw.encI_len _) (by decide) ho9
 obtain ⟨aQ, aR⟩ := get_some (xs := xs) (i := p) (by omega)
 obtain ⟨b12, a0⟩ := own_addr (by decide) (Go.Tw.encI_len _) ho9 aR
 refine WDi (NPt hN) 6 A xs.length c 17 .i64 (p : Int) b12 0 p 1 (by kernel_rfl) (by kernel_rfl) a0 (by omega) (by omega) p (by first | (simp; done) | omega) hS8 (WDx 2 [(8, 19, .slice A xs.length c), (9, 20, I6 (a : Int))] hS8 ?_)
 have b5 := own_count (Go.Tw.encI_len _) (by decide) ho9
 obtain ⟨aS, aw⟩ := get_some (xs := xs) (i := a) (by omega)
 obtain ⟨b17, ax⟩ := own_addr (by decide) (Go.Tw.encI_len _) ho9 aw
 refine WDi (NPt hN) 10 A xs.length c 21 .i64 (a : Int) b17 0 a 1 (by kernel_rfl) (by kernel_rfl) ax (by omega) (by omega) a (by first | (simp; done) | omega) hS8 ?_
 refine two_loads 7 11 (Instr.loadAt 40 (P0 b12 p)) (Instr.loadAt 40 (P0 b17 a)) 18 22 (U4 aQ) (U4 aS) (by kernel_rfl) (by kernel_rfl) (by kernel_rfl) (run_load1 rfl (by simpa [Nat.add_assoc] using Rd.cell (own_rd ho9 (Go.Tw.encI_len _) (by decide)) a0 aR 0 _ rfl)) (run_load1 rfl (by simpa [Nat.add_assoc] using Rd.cell (own_rd ho9 (Go.Tw.encI_len _) (by decide)) ax aw 0 _ rfl)) hS8 (by kernel_rfl) (by kernel_rfl) (by kernel_rfl) (by kernel_rfl) (by decide) (by kernel_rfl) ?_
 refine WDi (NPt hN) 12 A xs.length c 23 .i64 (a : Int) b17 0 a 1 (by kernel_rfl) (by kernel_rfl) ax (by omega) (by omega) a (by first | (simp; done) | omega) hS8 ?_
 obtain ⟨co, bx, bz, aT, bA⟩ := stoE_run Tryz.prog (Go.Tw.encI_len _) hC7 0 ax rfl ho9 a 0 (x := aS) aw aQ [U4 aQ] rfl 40 (U4 aQ) (a) rfl rfl rfl (by first | rfl | simp [Nat.add_assoc])
 have aU := hS8.trans bz (fun x_ hx_ => .inl hx_)
 refine WDu 13 bx aU ?_
 have b6 := own_count (Go.Tw.encI_len _) (by decide) aT
 obtain ⟨b7, a1⟩ := get_some (xs := xs.set a aQ) (i := p) (by omega)
 obtain ⟨b32, a2⟩ := own_addr (by decide) (Go.Tw.encI_len _) aT a1
 refine WDi (NPt hN) 14 A xs.length c 24 .i64 (p : Int) b32 0 p 1 (by kernel_rfl) (by kernel_rfl) a2 (by omega) (by omega) p (by first | (simp; done) | omega) aU ?_
 obtain ⟨cp, bB, bC, bD, bE⟩ := stoE_run Tryz.prog (Go.Tw.encI_len _) bA 0 a2 rfl aT p 0 (x := b7) a1 aS [U4 aS] rfl 40 (U4 aS) (p) rfl rfl rfl (by first | rfl | simp [Nat.add_assoc])
 have bF := aU.trans bC (fun x_ hx_ => .inl hx_)
 refine WDu 15 bB bF (WDd (QXn (hK4 _ _ (WCs (fun cq a3 => WCg (WLz 2 [(26, I6 (IntKind.i64.wrap ((a : Int) + 1)))] ?_))))))
 refine WLt (show (I6 (IntKind.i64.wrap ((a : Int) + 1)) : Value) = I6 ((a + 1 : Nat) : Int) from by rw [wrap_in_i64 _ (by omega) (by omega)] <;> first | rfl | (congr 1; done) | (congr 1; omega)) (WLz 2 [(28, I6 (IntKind.i64.wrap ((b : Int) - 1)))] (WLt (show (I6 (IntKind.i64.wrap ((b : Int) - 1)) : Value) = I6 ((b - 1 : Nat) : Int) from by rw [wrap_in_i64 _ (by omega) (by omega)] <;> first | rfl | (congr 1; done) | (congr 1; omega)) (WLq 2 [(10, I6 ((b - 1 : Nat) : Int)), (9, I6 ((a + 1 : Nat) : Int))] (WLd rfl (QXn (a3 _ _ (WCs (fun cr a4 => WC.block ?_))))))))
 obtain ⟨L1, hL1⟩ : ∃ l_ : List Int, l_ = (xs.set a aQ).set p aS := ⟨_, rfl⟩
 have ay := bD
 rw [← hL1] at ay
 have hLnL1 := own_count (Go.Tw.encI_len .u32) (by decide) ay
 refine WC.loop (fun m_ E_ w_ => ∃ (i j : Nat) (L : List Int), m_ = j + 1 - i ∧ E_ = [(0, .slice A xs.length c), (1, I6 (a : Int)), (2, I6 (b : Int)), (3, I6 (p : Int)), (9, I6 (i : Int)), (10, I6 (j : Int))] ∧ Cx w (blk (.slice A xs.length c)) w_ [] [blk (.slice A xs.length c)] ∧ World.ownsRow w_ 0 40 1 (.slice A xs.length c) xs.length (L.flatMap (Go.Tw.encI .u32)) ∧ ((a < i ∧ i ≤ j + 2 ∧ j < b) ∧ L.length = xs.length ∧ partEqLoop ltInt a i j (aOf L) = partEqLoop ltInt a (a + 1) (b - 1) (aOf L1))) ⟨_, _, ⟨a + 1, b - 1, L1, rfl, rfl, bE, ay, ⟨by omega, by omega, by omega⟩, (own_count (Go.Tw.encI_len .u32) (by decide) ay), rfl⟩, sub_of ⟨rfl, rfl, rfl, rfl, rfl, rfl, trivial⟩⟩ (fun m49 E_ cs ct bG bH => ?_)
 obtain ⟨i, j, L, rfl, rfl, bI, hrow, ⟨hi1, hi2, hi3⟩, hL, hpt⟩ := bH
 refine WC.block (WC.seqI (fun E_ w_ => ∃ (i2 : Nat), E_ = [(0, .slice A xs.length c), (1, I6 (a : Int)), (2, I6 (b : Int)), (3, I6 (p : Int)), (9, I6 (i2 : Int)), (10, I6 (j : Int))] ∧ Cx w (blk (.slice A xs.length c)) w_ [] [blk (.slice A xs.length c)] ∧ World.ownsRow w_ 0 40 1 (.slice A xs.length c) xs.length (L.flatMap (Go.Tw.encI .u32)) ∧ ((i ≤ i2 ∧ i2 ≤ j + 2) ∧ scanUp (upE (aOf L) a) (aOf L) j i = i2)) (fun cu a5 => ?_) ?_)
 ·
  refine WC.block (WC.loop (fun m_ E_ w_ => ∃ (i2 : Nat), m_ = j + 1 - i2 ∧ E_ = [(0, .slice A xs.length c), (1, I6 (a : Int)), (2, I6 (b : Int)), (3, I6 (p : Int)), (9, I6 (i2 : Int)), (10, I6 (j : Int))] ∧ Cx w (blk (.slice A xs.length c)) w_ [] [blk (.slice A xs.length c)] ∧ World.ownsRow w_ 0 40 1 (.slice A xs.length c) xs.length (L.flatMap (Go.Tw.encI .u32)) ∧ ((i ≤ i2 ∧ i2 ≤ j + 2) ∧ scanUp (upE (aOf L) a) (aOf L) j i2 = scanUp (upE (aOf L) a) (aOf L) j i)) ⟨_, _, ⟨i, rfl, rfl, bI, hrow, ⟨by omega, by omega⟩, rfl⟩, sub_of ⟨rfl, rfl, rfl, rfl, rfl, rfl, trivial⟩⟩ (fun m60 E_ cv cw bJ bK => ?_))
  obtain ⟨i2, rfl, rfl, bL, row_m60, ⟨hb1_, hb2_⟩, hsc⟩ := bK
  refine WCs (fun cx bM => WCs (fun cy a6 => WC.drawC bL [] (by kernel_rfl) (fun b8 bN a7 ab => ?_)))
  have af := own_fr row_m60 bN (by simp)
  refine WDx 4 [(0, 29, I6 (i2 : Int)), (1, 30, I6 (j : Int)), (2, 31, .bool (decide ((i2 : Int) ≤ (j : Int)))), (3, 32, .bool (decide ((i2 : Int) ≤ (j : Int))))] ab (WDa 32 (decide ((i2 : Int) ≤ (j : Int))) rfl (fun aV => ?_) (fun aV => ?_))
  ·
   have b9 : (i2 : Int) ≤ (j : Int) := by have q_ := of_decide_eq_true aV; omega
   refine WDx 2 [(4, 33, .slice A xs.length c), (5, 34, I6 (a : Int))] ab ?_
   have ca := own_count (Go.Tw.encI_len _) (by decide) af
   obtain ⟨aW, az⟩ := get_some (xs := L) (i := a) (by omega)
   obtain ⟨b75, a8⟩ := own_addr (by decide) (Go.Tw.encI_len _) af az
   refine WDi (NPt (NPt (NPt (NPb (NPt (NPb (NPt (NPb (NPt hN))))))))) 6 A xs.length c 35 .i64 (a : Int) b75 0 a 1 (by kernel_rfl) (by kernel_rfl) a8 (by omega) (by omega) a (by first | (simp; done) | omega) ab (WDx 2 [(8, 37, .slice A xs.length c), (9, 38, I6 (i2 : Int))] ab ?_)
   have cb := own_count (Go.Tw.encI_len _) (by decide) af
   obtain ⟨aX, aA⟩ := get_some (xs := L) (i := i2) (by omega)
   obtain ⟨b80, a9⟩ := own_addr (by decide) (Go.Tw.encI_len _) af aA
   refine WDi (NPt (NPt (NPt (NPb (NPt (NPb (NPt (NPb (NPt hN))))))))) 10 A xs.length c 39 .i64 (i2 : Int) b80 0 i2 1 (by kernel_rfl) (by kernel_rfl) a9 (by omega) (by omega) i2 (by first | (simp; done) | omega) ab (WDm 7 40 (P0 b75 a) (U4 aW) 36 (fun _ hS_ => run_load1 rfl (by simpa [Nat.add_assoc] using Rd.cell (own_rd (own_fr af hS_ (by simp)) (Go.Tw.encI_len _) (by decide)) a8 az 0 _ rfl)) ab (WDm 11 40 (P0 b80 i2) (U4 aX) 40 (fun _ hS_ => run_load1 rfl (by simpa [Nat.add_assoc] using Rd.cell (own_rd (own_fr af hS_ (by simp)) (Go.Tw.encI_len _) (by decide)) a9 aA 0 _ rfl)) ab (WDc 12 (Less_ct aW aX b8) ?_)))
   rintro _ cz ⟨rfl, aY⟩
   have aZ := ab.trans aY (by simp)
   refine ⟨_, rfl, aZ, ?_⟩
   have ba := a7.call aY
   have bb := own_fr af aY (by simp)
   refine WDx 2 [(13, 42, .bool (!(decide (aW < aX)))), (14, 43, .bool (!(decide (aW < aX))))] aZ (WDd (QXn (a6 _ _ (WCa 43 (!(decide (aW < aX))) rfl (fun am => ?_) (fun am => ?_)))))
   ·
    have bO : (decide (aW < aX)) = false := by first | (simpa only [Bool.not_eq_true', Bool.not_eq_false'] using am) | simpa using am
    refine WCt rfl (WC.skip (QXn (bM _ _ (WC.block (WCg (WLz 2 [(45, I6 (IntKind.i64.wrap ((i2 : Int) + 1)))] ?_))))))
    refine WLt (show (I6 (IntKind.i64.wrap ((i2 : Int) + 1)) : Value) = I6 ((i2 + 1 : Nat) : Int) from by rw [wrap_in_i64 _ (by omega) (by omega)] <;> first | rfl | (congr 1; done) | (congr 1; omega)) (WLq 1 [(9, I6 ((i2 + 1 : Nat) : Int))] (WLd rfl (QXb (QXn ?_))))
    have bP := ba.pick [] [0] rfl rfl
    refine fun a_ ha_ => bJ _ _ _ ?_ ⟨i2 + 1, rfl, rfl, bP, bb, ⟨by omega, by omega⟩, by rw [← hsc]; exact (su_go (by omega) aA (by rw [upE_is az, bO]; rfl)).symm⟩ a_ (ha_.weaken (sub_of ⟨rfl, rfl, rfl, rfl, rfl, rfl, trivial⟩))
    omega
   ·
    have bO : (decide (aW < aX)) = true := by first | (simpa only [Bool.not_eq_true', Bool.not_eq_false'] using am) | simpa using am
    refine WCf rfl (WC.exit (QXe (QXe (QX.block_hit (QXn ?_)))))
    have bQ := ba.pickM [] [0] (by decide) rfl rfl
    exact fun a_ ha_ => a5 _ _ ⟨i2, rfl, bQ, bb, ⟨by omega, by omega⟩, by rw [← hsc]; exact su_stop2 aA (by rw [upE_is az, bO]; rfl)⟩ a_ (ha_.weaken (sub_of ⟨rfl, rfl, rfl, rfl, rfl, rfl, trivial⟩))
  ·
   have b9 : (j : Int) < (i2 : Int) := by have q_ := of_decide_eq_false aV; omega
   refine WDx 11 [(4, 33, undef), (5, 34, undef), (6, 35, undef), (7, 36, undef), (8, 37, undef), (9, 38, undef), (10, 39, undef), (11, 40, undef), (12, 41, undef), (13, 42, undef), (14, 43, .bool false)] ab (WDd (QXn (a6 _ _ (WCf rfl (WC.exit (QXe ?_))))))
   refine QXe (QX.block_hit (QXn ?_))
   have bR := a7.pickM [] [0] (by decide) rfl rfl
   exact fun a_ ha_ => a5 _ _ ⟨i2, rfl, bR, af, ⟨by omega, by omega⟩, by rw [← hsc]; exact su_stop1 (by omega)⟩ a_ (ha_.weaken (sub_of ⟨rfl, rfl, rfl, rfl, rfl, rfl, trivial⟩))
 rintro E_ cA ⟨i2, rfl, bS, row_m54, ⟨hb1scanUp_, hb2scanUp_⟩, hscanUp_⟩
 refine WC.seqI (fun E_ w_ => ∃ (j2 : Nat), E_ = [(0, .slice A xs.length c), (1, I6 (a : Int)), (2, I6 (b : Int)), (3, I6 (p : Int)), (9, I6 (i2 : Int)), (10, I6 (j2 : Int))] ∧ Cx w (blk (.slice A xs.length c)) w_ [] [blk (.slice A xs.length c)] ∧ World.ownsRow w_ 0 40 1 (.slice A xs.length c) xs.length (L.flatMap (Go.Tw.encI .u32)) ∧ ((j2 ≤ j ∧ i2 ≤ j2 + 2) ∧ scanDown (dnE (aOf L) a) (aOf L) i2 j = j2)) (fun cB bc => ?_) ?_
 ·
  refine WC.block (WC.loop (fun m_ E_ w_ => ∃ (j2 : Nat), m_ = j2 + 1 ∧ E_ = [(0, .slice A xs.length c), (1, I6 (a : Int)), (2, I6 (b : Int)), (3, I6 (p : Int)), (9, I6 (i2 : Int)), (10, I6 (j2 : Int))] ∧ Cx w (blk (.slice A xs.length c)) w_ [] [blk (.slice A xs.length c)] ∧ World.ownsRow w_ 0 40 1 (.slice A xs.length c) xs.length (L.flatMap (Go.Tw.encI .u32)) ∧ ((j2 ≤ j ∧ i2 ≤ j2 + 2) ∧ scanDown (dnE (aOf L) a) (aOf L) i2 j2 = scanDown (dnE (aOf L) a) (aOf L) i2 j)) ⟨_, _, ⟨j, rfl, rfl, bS, row_m54, ⟨by omega, by omega⟩, rfl⟩, sub_of ⟨rfl, rfl, rfl, rfl, rfl, rfl, trivial⟩⟩ (fun m100 E_ cc cC bT bU => ?_))
  obtain ⟨j2, rfl, rfl, bd, row_m100, ⟨hb1_, hb2_⟩, hsc⟩ := bU
  refine WCs (fun cd be => WCs (fun ce aD => WC.drawC bd [] (by kernel_rfl) (fun bV bf aE aa => ?_)))
  have ad := own_fr row_m100 bf (by simp)
  refine WDx 4 [(0, 46, I6 (i2 : Int)), (1, 47, I6 (j2 : Int)), (2, 48, .bool (decide ((i2 : Int) ≤ (j2 : Int)))), (3, 49, .bool (decide ((i2 : Int) ≤ (j2 : Int))))] aa (WDa 49 (decide ((i2 : Int) ≤ (j2 : Int))) rfl (fun an => ?_) (fun an => ?_))
  ·
   have bW : (i2 : Int) ≤ (j2 : Int) := by have q_ := of_decide_eq_true an; omega
   refine WDx 2 [(4, 50, .slice A xs.length c), (5, 51, I6 (a : Int))] aa ?_
   have bZ := own_count (Go.Tw.encI_len _) (by decide) ad
   obtain ⟨aB, ai⟩ := get_some (xs := L) (i := a) (by omega)
   obtain ⟨b115, aF⟩ := own_addr (by decide) (Go.Tw.encI_len _) ad ai
   refine WDi (NPt (NPt (NPt (NPb (NPt (NPb (NPt (NPb (NPt hN))))))))) 6 A xs.length c 52 .i64 (a : Int) b115 0 a 1 (by kernel_rfl) (by kernel_rfl) aF (by omega) (by omega) a (by first | (simp; done) | omega) aa (WDx 2 [(8, 54, .slice A xs.length c), (9, 55, I6 (j2 : Int))] aa ?_)
   have b0 := own_count (Go.Tw.encI_len _) (by decide) ad
   obtain ⟨aC, aj⟩ := get_some (xs := L) (i := j2) (by omega)
   obtain ⟨b120, aG⟩ := own_addr (by decide) (Go.Tw.encI_len _) ad aj
   refine WDi (NPt (NPt (NPt (NPb (NPt (NPb (NPt (NPb (NPt hN))))))))) 10 A xs.length c 56 .i64 (j2 : Int) b120 0 j2 1 (by kernel_rfl) (by kernel_rfl) aG (by omega) (by omega) j2 (by first | (simp; done) | omega) aa (WDm 7 40 (P0 b115 a) (U4 aB) 53 (fun _ hS_ => run_load1 rfl (by simpa [Nat.add_assoc] using Rd.cell (own_rd (own_fr ad hS_ (by simp)) (Go.Tw.encI_len _) (by decide)) aF ai 0 _ rfl)) aa (WDm 11 40 (P0 b120 j2) (U4 aC) 57 (fun _ hS_ => run_load1 rfl (by simpa [Nat.add_assoc] using Rd.cell (own_rd (own_fr ad hS_ (by simp)) (Go.Tw.encI_len _) (by decide)) aG aj 0 _ rfl)) aa (WDc 12 (Less_ct aB aC bV) ?_)))
   rintro _ cf ⟨rfl, ao⟩
   have aH := aa.trans ao (by simp)
   refine ⟨_, rfl, aH, ?_⟩
   have aI := aE.call ao
   have aJ := own_fr ad ao (by simp)
   refine WDq 13 59 (.bool (decide (aB < aC))) aH (WDd (QXn (aD _ _ (WCa 59 (decide (aB < aC)) rfl (fun ap => ?_) (fun ap => ?_)))))
   ·
    refine WCt rfl (WC.skip (QXn (be _ _ (WC.block (WCg (WLz 2 [(61, I6 (IntKind.i64.wrap ((j2 : Int) - 1)))] ?_))))))
    refine WLt (show (I6 (IntKind.i64.wrap ((j2 : Int) - 1)) : Value) = I6 ((j2 - 1 : Nat) : Int) from by rw [wrap_in_i64 _ (by omega) (by omega)] <;> first | rfl | (congr 1; done) | (congr 1; omega)) (WLq 1 [(10, I6 ((j2 - 1 : Nat) : Int))] (WLd rfl (QXb (QXn ?_))))
    have bg := aI.pick [] [0] rfl rfl
    refine fun a_ ha_ => bT _ _ _ ?_ ⟨j2 - 1, rfl, rfl, bg, aJ, ⟨by omega, by omega⟩, by rw [← hsc]; exact (sd_go (by omega) (by omega) aj (by rw [dnE_is ai, ap])).symm⟩ a_ (ha_.weaken (sub_of ⟨rfl, rfl, rfl, rfl, rfl, rfl, trivial⟩))
    omega
   ·
    refine WCf rfl (WC.exit (QXe (QXe (QX.block_hit (QXn ?_)))))
    have bh := aI.pickM [] [0] (by decide) rfl rfl
    exact fun a_ ha_ => bc _ _ ⟨j2, rfl, bh, aJ, ⟨by omega, by omega⟩, by rw [← hsc]; exact sd_stop2 aj (by rw [dnE_is ai, ap])⟩ a_ (ha_.weaken (sub_of ⟨rfl, rfl, rfl, rfl, rfl, rfl, trivial⟩))
  ·
   have bW : (j2 : Int) < (i2 : Int) := by have q_ := of_decide_eq_false an; omega
   refine WDx 10 [(4, 50, undef), (5, 51, undef), (6, 52, undef), (7, 53, undef), (8, 54, undef), (9, 55, undef), (10, 56, undef), (11, 57, undef), (12, 58, undef), (13, 59, .bool false)] aa (WDd (QXn (aD _ _ (WCf rfl (WC.exit (QXe ?_))))))
   refine QXe (QX.block_hit (QXn ?_))
   have bi := aE.pickM [] [0] (by decide) rfl rfl
   exact fun a_ ha_ => bc _ _ ⟨j2, rfl, bi, ad, ⟨by omega, by omega⟩, by rw [← hsc]; exact sd_stop1 (by omega)⟩ a_ (ha_.weaken (sub_of ⟨rfl, rfl, rfl, rfl, rfl, rfl, trivial⟩))
 rintro E_ cD ⟨j2, rfl, bj, row_m94, ⟨hb1scanDown_, hb2scanDown_⟩, hscanDown_⟩
 refine WCs (fun cg aK => WCs (fun ch aL => WCg (WLz 3 [(64, .bool (decide ((i2 : Int) > (j2 : Int))))] (WLd rfl (QXn (aL _ _ (WCa 64 (decide ((i2 : Int) > (j2 : Int))) rfl (fun aq => ?_) (fun aq => ?_))))))))
 ·
  have bX : (j2 : Int) < (i2 : Int) := by have q_ := of_decide_eq_true aq; omega
  refine WCt rfl (WC.exit (QXe (QX.block_miss (by decide) (QXe (QX.block_hit ?_)))))
  refine QXn (a4 _ _ (WCs (fun ci aM => WCg (WLz 2 [(8, I6 (i2 : Int))] (WLd rfl (QXn (aM _ _ (WC.ret ?_))))))))
  refine (hret _ _ _ rfl ?_).1
  clear hN hret hret' aM aL aK a4 a3 hK4 hK2
  have hpe_ : partitionEqual ltInt (aOf xs) a b p = (i2, aOf L) := by
   show partEqLoop ltInt a (a + 1) (b - 1) (swp (aOf xs) a p) = _
   rw [← aSwp aw aR, ← hL1, ← hpt]; exact parE_stop hscanUp_ hscanDown_ (by omega)
  exact ⟨L, by rw [hpe_]; rfl, bj.fr, row_m94, by rw [hpe_]⟩
 ·
  have bX : (i2 : Int) ≤ (j2 : Int) := by have q_ := of_decide_eq_false aq; omega
  refine WCf rfl (WC.skip (QXn (aK _ _ (WCs (fun cj bk => WC.drawC bj (blk (.slice A xs.length c)) (by kernel_rfl) (fun ck bl bm ac => ?_))))))
  have ae := own_fr row_m94 bl (by simp)
  refine WDx 6 [(0, 65, .slice A xs.length c), (1, 66, I6 (i2 : Int)), (2, 67, .slice A xs.length c), (3, 68, I6 (j2 : Int)), (4, 69, .slice A xs.length c), (5, 70, I6 (j2 : Int))] ac ?_
  have b1 := own_count (Go.Tw.encI_len _) (by decide) ae
  obtain ⟨ag, ar⟩ := get_some (xs := L) (i := j2) (by omega)
  obtain ⟨b148, aN⟩ := own_addr (by decide) (Go.Tw.encI_len _) ae ar
  refine WDi (NPt (NPb (NPt (NPb (NPt hN))))) 6 A xs.length c 71 .i64 (j2 : Int) b148 0 j2 1 (by kernel_rfl) (by kernel_rfl) aN (by omega) (by omega) j2 (by first | (simp; done) | omega) ac (WDx 2 [(8, 73, .slice A xs.length c), (9, 74, I6 (i2 : Int))] ac ?_)
  have b2 := own_count (Go.Tw.encI_len _) (by decide) ae
  obtain ⟨ah, ak⟩ := get_some (xs := L) (i := i2) (by omega)
  obtain ⟨b153, al⟩ := own_addr (by decide) (Go.Tw.encI_len _) ae ak
  refine WDi (NPt (NPb (NPt (NPb (NPt hN))))) 10 A xs.length c 75 .i64 (i2 : Int) b153 0 i2 1 (by kernel_rfl) (by kernel_rfl) al (by omega) (by omega) i2 (by first | (simp; done) | omega) ac ?_
  refine two_loads 7 11 (Instr.loadAt 40 (P0 b148 j2)) (Instr.loadAt 40 (P0 b153 i2)) 72 76 (U4 ag) (U4 ah) (by kernel_rfl) (by kernel_rfl) (by kernel_rfl) (run_load1 rfl (by simpa [Nat.add_assoc] using Rd.cell (own_rd ae (Go.Tw.encI_len _) (by decide)) aN ar 0 _ rfl)) (run_load1 rfl (by simpa [Nat.add_assoc] using Rd.cell (own_rd ae (Go.Tw.encI_len _) (by decide)) al ak 0 _ rfl)) ac (by kernel_rfl) (by kernel_rfl) (by kernel_rfl) (by kernel_rfl) (by decide) (by kernel_rfl) ?_
  refine WDi (NPt (NPb (NPt (NPb (NPt hN))))) 12 A xs.length c 77 .i64 (i2 : Int) b153 0 i2 1 (by kernel_rfl) (by kernel_rfl) al (by omega) (by omega) i2 (by first | (simp; done) | omega) ac ?_
  obtain ⟨cl, bn, bo, au, bp⟩ := stoE_run Tryz.prog (Go.Tw.encI_len _) bm 0 al rfl ae i2 0 (x := ah) ak ag [U4 ag] rfl 40 (U4 ag) (i2) rfl rfl rfl (by first | rfl | simp [Nat.add_assoc])
  have av := ac.trans bo (fun x_ hx_ => .inl hx_)
  refine WDu 13 bn av ?_
  have b3 := own_count (Go.Tw.encI_len _) (by decide) au
  obtain ⟨bY, aO⟩ := get_some (xs := L.set i2 ag) (i := j2) (by omega)
  obtain ⟨b168, aP⟩ := own_addr (by decide) (Go.Tw.encI_len _) au aO
  refine WDi (NPt (NPb (NPt (NPb (NPt hN))))) 14 A xs.length c 78 .i64 (j2 : Int) b168 0 j2 1 (by kernel_rfl) (by kernel_rfl) aP (by omega) (by omega) j2 (by first | (simp; done) | omega) av ?_
  obtain ⟨cm, bq, br, bs, bt⟩ := stoE_run Tryz.prog (Go.Tw.encI_len _) bp 0 aP rfl au j2 0 (x := bY) aO ah [U4 ah] rfl 40 (U4 ah) (j2) rfl rfl rfl (by first | rfl | simp [Nat.add_assoc])
  have bu := av.trans br (fun x_ hx_ => .inl hx_)
  refine WDu 15 bq bu (WDd (QXn (bk _ _ (WCs (fun cn bv => WCg (WLz 2 [(80, I6 (IntKind.i64.wrap ((i2 : Int) + 1)))] ?_))))))
  refine WLt (show (I6 (IntKind.i64.wrap ((i2 : Int) + 1)) : Value) = I6 ((i2 + 1 : Nat) : Int) from by rw [wrap_in_i64 _ (by omega) (by omega)] <;> first | rfl | (congr 1; done) | (congr 1; omega)) (WLq 1 [(9, I6 ((i2 + 1 : Nat) : Int))] (WLd rfl (QXn (bv _ _ (WCg (WLz 2 [(82, I6 (IntKind.i64.wrap ((j2 : Int) - 1)))] (WLt (show (I6 (IntKind.i64.wrap ((j2 : Int) - 1)) : Value) = I6 ((j2 - 1 : Nat) : Int) from by rw [wrap_in_i64 _ (by omega) (by omega)] <;> first | rfl | (congr 1; done) | (congr 1; omega)) (WLq 1 [(10, I6 ((j2 - 1 : Nat) : Int))] ?_))))))))
  refine WLd rfl (QXb (QXn ?_))
  have bw := bt.pick [] [0] rfl rfl
  refine fun a_ ha_ => bG _ _ _ ?_ ⟨i2 + 1, j2 - 1, (L.set i2 ag).set j2 ah, rfl, rfl, bw, bs, ⟨by omega, by omega, by omega⟩, (set2_len _ _ _ _ _).trans hL, by rw [← hpt]; exact (parE_go hscanUp_ hscanDown_ (by omega) ak ar).symm⟩ a_ (ha_.weaken (sub_of ⟨rfl, rfl, rfl, rfl, rfl, rfl, trivial⟩))
  omega

theorem peq_n (A : Option Addr) (c n : Nat) (xs : List Int) (hn : xs.length = n) (a b p : Nat) (w : World) (hown : w.ownsRow 0 40 1 (.slice A n c) n (xs.flatMap (Go.Tw.encI .u32))) (hlen : n ≤ 1099511627776) (hap : a ≤ p) (hpb : p < b) (hb : b ≤ n) : Calls Tryz.prog 104 #[.slice A n c, .int .i64 (a : Int), .int .i64 (b : Int), .int .i64 (p : Int)] w fun e w' => ∃ ys : List Int, e = .returned (.int .i64 ((partitionEqual ltInt (aOf xs) a b p).1 : Int)) ∧ Fr w w' (blk (.slice A n c)) ∧ w'.ownsRow 0 40 1 (.slice A n c) n (ys.flatMap (Go.Tw.encI .u32)) ∧ aOf ys = (partitionEqual ltInt (aOf xs) a b p).2 := by subst hn; exact peq_ct A c xs a b p w hown hlen hap hpb hb
set_option maxHeartbeats 1000000 in
theorem prt_ct (A : Option Addr) (c : Nat) (xs : List Int) (a b p : Nat)  (w : World) (hown : w.ownsRow 0 40 1 (.slice A xs.length c) xs.length (xs.flatMap (Go.Tw.encI .u32))) (hlen : xs.length ≤ 1099511627776) (hap : a ≤ p) (hpb : p < b) (hb : b ≤ xs.length) : Calls Tryz.prog 105 #[.slice A xs.length c, I6 (a : Int), I6 (b : Int), I6 (p : Int)] w fun e w' => ∃ (ap : Bool) (ys : List Int), e = .returned (.tuple #[I6 ((partition ltInt (aOf xs) a b p).1 : Int), .bool ap]) ∧ Fr w w' (blk (.slice A xs.length c)) ∧ w'.ownsRow 0 40 1 (.slice A xs.length c) xs.length (ys.flatMap (Go.Tw.encI .u32)) ∧ aOf ys = (partition ltInt (aOf xs) a b p).2.2 := by
 refine enterD (n := 168) Tryz.func105 rfl rfl (Nat.le_of_ble_eq_true rfl) ?_
 intro Q0 hN hret hret'
 have hcc_ := own_le hown
 have hC := Cx.start1 w (own_lt hown)
 have hLs_ := own_count (Go.Tw.encI_len .u32) (by decide) hown
 refine WCs (fun K1 hK2 => WCg (WLq 2 [(9, .bool false), (8, I6 0)] (WLd rfl (QXn (hK2 _ _ (WCs (fun K3 hK4 => WC.drawC hC (blk (.slice A xs.length c)) (by kernel_rfl) (fun w5 hF6 hC7 hS8 => ?_))))))))
 have ho9 := own_fr hown hF6 (by simp)
 refine WDx 6 [(0, 12, .slice A xs.length c), (1, 13, I6 (a : Int)), (2, 14, .slice A xs.length c), (3, 15, I6 (p : Int)), (4, 16, .slice A xs.length c), (5, 17, I6 (p : Int))] hS8 ?_
 have ew := own_count (Go.Tw.encI_len _) (by decide) ho9
 obtain ⟨ca, bl⟩ := get_some (xs := xs) (i := p) (by omega)
 obtain ⟨b12, cl⟩ := own_addr (by decide) (Go.Tw.encI_len _) ho9 bl
 refine WDi (NPt hN) 6 A xs.length c 18 .i64 (p : Int) b12 0 p 1 (by kernel_rfl) (by kernel_rfl) cl (by omega) (by omega) p (by first | (simp; done) | omega) hS8 (WDx 2 [(8, 20, .slice A xs.length c), (9, 21, I6 (a : Int))] hS8 ?_)
 have ex := own_count (Go.Tw.encI_len _) (by decide) ho9
 obtain ⟨cb, aV⟩ := get_some (xs := xs) (i := a) (by omega)
 obtain ⟨b17, bm⟩ := own_addr (by decide) (Go.Tw.encI_len _) ho9 aV
 refine WDi (NPt hN) 10 A xs.length c 22 .i64 (a : Int) b17 0 a 1 (by kernel_rfl) (by kernel_rfl) bm (by omega) (by omega) a (by first | (simp; done) | omega) hS8 ?_
 refine two_loads 7 11 (Instr.loadAt 40 (P0 b12 p)) (Instr.loadAt 40 (P0 b17 a)) 19 23 (U4 ca) (U4 cb) (by kernel_rfl) (by kernel_rfl) (by kernel_rfl) (run_load1 rfl (by simpa [Nat.add_assoc] using Rd.cell (own_rd ho9 (Go.Tw.encI_len _) (by decide)) cl bl 0 _ rfl)) (run_load1 rfl (by simpa [Nat.add_assoc] using Rd.cell (own_rd ho9 (Go.Tw.encI_len _) (by decide)) bm aV 0 _ rfl)) hS8 (by kernel_rfl) (by kernel_rfl) (by kernel_rfl) (by kernel_rfl) (by decide) (by kernel_rfl) ?_
 refine WDi (NPt hN) 12 A xs.length c 24 .i64 (a : Int) b17 0 a 1 (by kernel_rfl) (by kernel_rfl) bm (by omega) (by omega) a (by first | (simp; done) | omega) hS8 ?_
 obtain ⟨fm, dG, dH, cc, dI⟩ := stoE_run Tryz.prog (Go.Tw.encI_len _) hC7 0 bm rfl ho9 a 0 (x := cb) aV ca [U4 ca] rfl 40 (U4 ca) (a) rfl rfl rfl (by first | rfl | simp [Nat.add_assoc])
 have cd := hS8.trans dH (fun x_ hx_ => .inl hx_)
 refine WDu 13 dG cd ?_
 have ey := own_count (Go.Tw.encI_len _) (by decide) cc
 obtain ⟨ez, cm⟩ := get_some (xs := xs.set a ca) (i := p) (by omega)
 obtain ⟨b32, cn⟩ := own_addr (by decide) (Go.Tw.encI_len _) cc cm
 refine WDi (NPt hN) 14 A xs.length c 25 .i64 (p : Int) b32 0 p 1 (by kernel_rfl) (by kernel_rfl) cn (by omega) (by omega) p (by first | (simp; done) | omega) cd ?_
 obtain ⟨fn, dJ, dK, dL, dM⟩ := stoE_run Tryz.prog (Go.Tw.encI_len _) dI 0 cn rfl cc p 0 (x := ez) cm cb [U4 cb] rfl 40 (U4 cb) (p) rfl rfl rfl (by first | rfl | simp [Nat.add_assoc])
 have dN := cd.trans dK (fun x_ hx_ => .inl hx_)
 refine WDu 15 dJ dN (WDd (QXn (hK4 _ _ (WCs (fun fo ce => WCg (WLz 2 [(27, I6 (IntKind.i64.wrap ((a : Int) + 1)))] ?_))))))
 refine WLt (show (I6 (IntKind.i64.wrap ((a : Int) + 1)) : Value) = I6 ((a + 1 : Nat) : Int) from by rw [wrap_in_i64 _ (by omega) (by omega)] <;> first | rfl | (congr 1; done) | (congr 1; omega)) (WLz 2 [(29, I6 (IntKind.i64.wrap ((b : Int) - 1)))] (WLt (show (I6 (IntKind.i64.wrap ((b : Int) - 1)) : Value) = I6 ((b - 1 : Nat) : Int) from by rw [wrap_in_i64 _ (by omega) (by omega)] <;> first | rfl | (congr 1; done) | (congr 1; omega)) (WLq 2 [(11, I6 ((b - 1 : Nat) : Int)), (10, I6 ((a + 1 : Nat) : Int))] (WLd rfl (QXn (ce _ _ ?_))))))
 obtain ⟨L1, hL1⟩ : ∃ l_ : List Int, l_ = (xs.set a ca).set p cb := ⟨_, rfl⟩
 have cf := dL
 rw [← hL1] at cf
 have hLnL1 := own_count (Go.Tw.encI_len .u32) (by decide) cf
 refine WC.seqI (fun E_ w_ => ∃ (i : Nat), E_ = [(0, .slice A xs.length c), (1, I6 (a : Int)), (2, I6 (b : Int)), (3, I6 (p : Int)), (10, I6 (i : Int)), (11, I6 ((b - 1 : Nat) : Int))] ∧ Cx w (blk (.slice A xs.length c)) w_ [] [blk (.slice A xs.length c)] ∧ World.ownsRow w_ 0 40 1 (.slice A xs.length c) xs.length (L1.flatMap (Go.Tw.encI .u32)) ∧ ((a + 1 ≤ i ∧ i ≤ (b - 1) + 2) ∧ scanUp (upP (aOf L1) a) (aOf L1) (b - 1) (a + 1) = i)) (fun fp co => ?_) ?_
 ·
  refine WC.block (WC.loop (fun m_ E_ w_ => ∃ (i : Nat), m_ = (b - 1) + 1 - i ∧ E_ = [(0, .slice A xs.length c), (1, I6 (a : Int)), (2, I6 (b : Int)), (3, I6 (p : Int)), (10, I6 (i : Int)), (11, I6 ((b - 1 : Nat) : Int))] ∧ Cx w (blk (.slice A xs.length c)) w_ [] [blk (.slice A xs.length c)] ∧ World.ownsRow w_ 0 40 1 (.slice A xs.length c) xs.length (L1.flatMap (Go.Tw.encI .u32)) ∧ ((a + 1 ≤ i ∧ i ≤ (b - 1) + 2) ∧ scanUp (upP (aOf L1) a) (aOf L1) (b - 1) i = scanUp (upP (aOf L1) a) (aOf L1) (b - 1) (a + 1))) ⟨_, _, ⟨a + 1, rfl, rfl, dM, cf, ⟨by omega, by omega⟩, rfl⟩, sub_of ⟨rfl, rfl, rfl, rfl, rfl, rfl, trivial⟩⟩ (fun m52 E_ fq fs dO dP => ?_))
  obtain ⟨i, rfl, rfl, dQ, row_m52, ⟨hb1_, hb2_⟩, hsc⟩ := dP
  refine WCs (fun ft dR => WCs (fun fu cp => WC.drawC dQ [] (by kernel_rfl) (fun eA dS cq ad => ?_)))
  have aq := own_fr row_m52 dS (by simp)
  refine WDx 4 [(0, 30, I6 (i : Int)), (1, 31, I6 ((b - 1 : Nat) : Int)), (2, 32, .bool (decide ((i : Int) ≤ ((b - 1 : Nat) : Int)))), (3, 33, .bool (decide ((i : Int) ≤ ((b - 1 : Nat) : Int))))] ad (WDa 33 (decide ((i : Int) ≤ ((b - 1 : Nat) : Int))) rfl (fun cg => ?_) (fun cg => ?_))
  ·
   have eB : (i : Int) ≤ ((b - 1 : Nat) : Int) := by have q_ := of_decide_eq_true cg; omega
   refine WDx 2 [(4, 34, .slice A xs.length c), (5, 35, I6 (i : Int))] ad ?_
   have eC := own_count (Go.Tw.encI_len _) (by decide) aq
   obtain ⟨dE, bn⟩ := get_some (xs := L1) (i := i) (by omega)
   obtain ⟨b67, cr⟩ := own_addr (by decide) (Go.Tw.encI_len _) aq bn
   refine WDi (NPt (NPt (NPt (NPb (NPt hN))))) 6 A xs.length c 36 .i64 (i : Int) b67 0 i 1 (by kernel_rfl) (by kernel_rfl) cr (by omega) (by omega) i (by first | (simp; done) | omega) ad (WDx 2 [(8, 38, .slice A xs.length c), (9, 39, I6 (a : Int))] ad ?_)
   have eD := own_count (Go.Tw.encI_len _) (by decide) aq
   obtain ⟨dF, bo⟩ := get_some (xs := L1) (i := a) (by omega)
   obtain ⟨b72, cs⟩ := own_addr (by decide) (Go.Tw.encI_len _) aq bo
   refine WDi (NPt (NPt (NPt (NPb (NPt hN))))) 10 A xs.length c 40 .i64 (a : Int) b72 0 a 1 (by kernel_rfl) (by kernel_rfl) cs (by omega) (by omega) a (by first | (simp; done) | omega) ad (WDm 7 40 (P0 b67 i) (U4 dE) 37 (fun _ hS_ => run_load1 rfl (by simpa [Nat.add_assoc] using Rd.cell (own_rd (own_fr aq hS_ (by simp)) (Go.Tw.encI_len _) (by decide)) cr bn 0 _ rfl)) ad (WDm 11 40 (P0 b72 a) (U4 dF) 41 (fun _ hS_ => run_load1 rfl (by simpa [Nat.add_assoc] using Rd.cell (own_rd (own_fr aq hS_ (by simp)) (Go.Tw.encI_len _) (by decide)) cs bo 0 _ rfl)) ad (WDc 12 (Less_ct dE dF eA) ?_)))
   rintro _ fv ⟨rfl, ch⟩
   have ct := ad.trans ch (by simp)
   refine ⟨_, rfl, ct, ?_⟩
   have cu := cq.call ch
   have cv := own_fr aq ch (by simp)
   refine WDq 13 43 (.bool (decide (dE < dF))) ct (WDd (QXn (cp _ _ (WCa 43 (decide (dE < dF)) rfl (fun ci => ?_) (fun ci => ?_)))))
   ·
    refine WCt rfl (WC.skip (QXn (dR _ _ (WC.block (WCg (WLz 2 [(45, I6 (IntKind.i64.wrap ((i : Int) + 1)))] ?_))))))
    refine WLt (show (I6 (IntKind.i64.wrap ((i : Int) + 1)) : Value) = I6 ((i + 1 : Nat) : Int) from by rw [wrap_in_i64 _ (by omega) (by omega)] <;> first | rfl | (congr 1; done) | (congr 1; omega)) (WLq 1 [(10, I6 ((i + 1 : Nat) : Int))] (WLd rfl (QXb (QXn ?_))))
    have dT := cu.pick [] [0] rfl rfl
    refine fun a_ ha_ => dO _ _ _ ?_ ⟨i + 1, rfl, rfl, dT, cv, ⟨by omega, by omega⟩, by rw [← hsc]; exact (su_go (by omega) bn (by rw [upP_is bo, ci])).symm⟩ a_ (ha_.weaken (sub_of ⟨rfl, rfl, rfl, rfl, rfl, rfl, trivial⟩))
    omega
   ·
    refine WCf rfl (WC.exit (QXe (QXe (QX.block_hit (QXn ?_)))))
    have dU := cu.pickM [] [0] (by decide) rfl rfl
    exact fun a_ ha_ => co _ _ ⟨i, rfl, dU, cv, ⟨by omega, by omega⟩, by rw [← hsc]; exact su_stop2 bn (by rw [upP_is bo, ci])⟩ a_ (ha_.weaken (sub_of ⟨rfl, rfl, rfl, rfl, rfl, rfl, trivial⟩))
  ·
   have eB : ((b - 1 : Nat) : Int) < (i : Int) := by have q_ := of_decide_eq_false cg; omega
   refine WDx 10 [(4, 34, undef), (5, 35, undef), (6, 36, undef), (7, 37, undef), (8, 38, undef), (9, 39, undef), (10, 40, undef), (11, 41, undef), (12, 42, undef), (13, 43, .bool false)] ad (WDd (QXn (cp _ _ (WCf rfl (WC.exit (QXe ?_))))))
   refine QXe (QX.block_hit (QXn ?_))
   have dV := cq.pickM [] [0] (by decide) rfl rfl
   exact fun a_ ha_ => co _ _ ⟨i, rfl, dV, aq, ⟨by omega, by omega⟩, by rw [← hsc]; exact su_stop1 (by omega)⟩ a_ (ha_.weaken (sub_of ⟨rfl, rfl, rfl, rfl, rfl, rfl, trivial⟩))
 rintro E_ fw ⟨i, rfl, dW, row_m46, ⟨hb1scanUp_, hb2scanUp_⟩, hscanUp_⟩
 refine WC.seqI (fun E_ w_ => ∃ (j : Nat), E_ = [(0, .slice A xs.length c), (1, I6 (a : Int)), (2, I6 (b : Int)), (3, I6 (p : Int)), (10, I6 (i : Int)), (11, I6 (j : Int))] ∧ Cx w (blk (.slice A xs.length c)) w_ [] [blk (.slice A xs.length c)] ∧ World.ownsRow w_ 0 40 1 (.slice A xs.length c) xs.length (L1.flatMap (Go.Tw.encI .u32)) ∧ ((j ≤ (b - 1) ∧ i ≤ j + 2) ∧ scanDown (dnP (aOf L1) a) (aOf L1) i (b - 1) = j)) (fun fx cw => ?_) ?_
 ·
  refine WC.block (WC.loop (fun m_ E_ w_ => ∃ (j : Nat), m_ = j + 1 ∧ E_ = [(0, .slice A xs.length c), (1, I6 (a : Int)), (2, I6 (b : Int)), (3, I6 (p : Int)), (10, I6 (i : Int)), (11, I6 (j : Int))] ∧ Cx w (blk (.slice A xs.length c)) w_ [] [blk (.slice A xs.length c)] ∧ World.ownsRow w_ 0 40 1 (.slice A xs.length c) xs.length (L1.flatMap (Go.Tw.encI .u32)) ∧ ((j ≤ (b - 1) ∧ i ≤ j + 2) ∧ scanDown (dnP (aOf L1) a) (aOf L1) i j = scanDown (dnP (aOf L1) a) (aOf L1) i (b - 1))) ⟨_, _, ⟨(b - 1), rfl, rfl, dW, row_m46, ⟨by omega, by omega⟩, rfl⟩, sub_of ⟨rfl, rfl, rfl, rfl, rfl, rfl, trivial⟩⟩ (fun m92 E_ fy fz dX dY => ?_))
  obtain ⟨j, rfl, rfl, dZ, row_m92, ⟨hb1_, hb2_⟩, hsc⟩ := dY
  refine WCs (fun fA d0 => WCs (fun fB cx => WC.drawC dZ [] (by kernel_rfl) (fun eE cy br aa => ?_)))
  have ai := own_fr row_m92 cy (by simp)
  refine WDx 4 [(0, 46, I6 (i : Int)), (1, 47, I6 (j : Int)), (2, 48, .bool (decide ((i : Int) ≤ (j : Int)))), (3, 49, .bool (decide ((i : Int) ≤ (j : Int))))] aa (WDa 49 (decide ((i : Int) ≤ (j : Int))) rfl (fun aW => ?_) (fun aW => ?_))
  ·
   have d1 : (i : Int) ≤ (j : Int) := by have q_ := of_decide_eq_true aW; omega
   refine WDx 2 [(4, 50, .slice A xs.length c), (5, 51, I6 (j : Int))] aa ?_
   have ec := own_count (Go.Tw.encI_len _) (by decide) ai
   obtain ⟨ax, aD⟩ := get_some (xs := L1) (i := j) (by omega)
   obtain ⟨b107, bs⟩ := own_addr (by decide) (Go.Tw.encI_len _) ai aD
   refine WDi (NPt (NPt (NPt (NPb (NPt hN))))) 6 A xs.length c 52 .i64 (j : Int) b107 0 j 1 (by kernel_rfl) (by kernel_rfl) bs (by omega) (by omega) j (by first | (simp; done) | omega) aa (WDx 2 [(8, 54, .slice A xs.length c), (9, 55, I6 (a : Int))] aa ?_)
   have ed := own_count (Go.Tw.encI_len _) (by decide) ai
   obtain ⟨ay, aE⟩ := get_some (xs := L1) (i := a) (by omega)
   obtain ⟨b112, bt⟩ := own_addr (by decide) (Go.Tw.encI_len _) ai aE
   refine WDi (NPt (NPt (NPt (NPb (NPt hN))))) 10 A xs.length c 56 .i64 (a : Int) b112 0 a 1 (by kernel_rfl) (by kernel_rfl) bt (by omega) (by omega) a (by first | (simp; done) | omega) aa (WDm 7 40 (P0 b107 j) (U4 ax) 53 (fun _ hS_ => run_load1 rfl (by simpa [Nat.add_assoc] using Rd.cell (own_rd (own_fr ai hS_ (by simp)) (Go.Tw.encI_len _) (by decide)) bs aD 0 _ rfl)) aa (WDm 11 40 (P0 b112 a) (U4 ay) 57 (fun _ hS_ => run_load1 rfl (by simpa [Nat.add_assoc] using Rd.cell (own_rd (own_fr ai hS_ (by simp)) (Go.Tw.encI_len _) (by decide)) bt aE 0 _ rfl)) aa (WDc 12 (Less_ct ax ay eE) ?_)))
   rintro _ eF ⟨rfl, aX⟩
   have aY := aa.trans aX (by simp)
   refine ⟨_, rfl, aY, ?_⟩
   have bu := br.call aX
   have bv := own_fr ai aX (by simp)
   refine WDx 2 [(13, 59, .bool (!(decide (ax < ay)))), (14, 60, .bool (!(decide (ax < ay))))] aY (WDd (QXn (cx _ _ (WCa 60 (!(decide (ax < ay))) rfl (fun ar => ?_) (fun ar => ?_)))))
   ·
    have cj : (decide (ax < ay)) = false := by first | (simpa only [Bool.not_eq_true', Bool.not_eq_false'] using ar) | simpa using ar
    refine WCt rfl (WC.skip (QXn (d0 _ _ (WC.block (WCg (WLz 2 [(62, I6 (IntKind.i64.wrap ((j : Int) - 1)))] ?_))))))
    refine WLt (show (I6 (IntKind.i64.wrap ((j : Int) - 1)) : Value) = I6 ((j - 1 : Nat) : Int) from by rw [wrap_in_i64 _ (by omega) (by omega)] <;> first | rfl | (congr 1; done) | (congr 1; omega)) (WLq 1 [(11, I6 ((j - 1 : Nat) : Int))] (WLd rfl (QXb (QXn ?_))))
    have cz := bu.pick [] [0] rfl rfl
    refine fun a_ ha_ => dX _ _ _ ?_ ⟨j - 1, rfl, rfl, cz, bv, ⟨by omega, by omega⟩, by rw [← hsc]; exact (sd_go (by omega) (by omega) aD (by rw [dnP_is aE, cj]; rfl)).symm⟩ a_ (ha_.weaken (sub_of ⟨rfl, rfl, rfl, rfl, rfl, rfl, trivial⟩))
    omega
   ·
    have cj : (decide (ax < ay)) = true := by first | (simpa only [Bool.not_eq_true', Bool.not_eq_false'] using ar) | simpa using ar
    refine WCf rfl (WC.exit (QXe (QXe (QX.block_hit (QXn ?_)))))
    have cA := bu.pickM [] [0] (by decide) rfl rfl
    exact fun a_ ha_ => cw _ _ ⟨j, rfl, cA, bv, ⟨by omega, by omega⟩, by rw [← hsc]; exact sd_stop2 aD (by rw [dnP_is aE, cj]; rfl)⟩ a_ (ha_.weaken (sub_of ⟨rfl, rfl, rfl, rfl, rfl, rfl, trivial⟩))
  ·
   have d1 : (j : Int) < (i : Int) := by have q_ := of_decide_eq_false aW; omega
   refine WDx 11 [(4, 50, undef), (5, 51, undef), (6, 52, undef), (7, 53, undef), (8, 54, undef), (9, 55, undef), (10, 56, undef), (11, 57, undef), (12, 58, undef), (13, 59, undef), (14, 60, .bool false)] aa (WDd (QXn (cx _ _ (WCf rfl (WC.exit (QXe ?_))))))
   refine QXe (QX.block_hit (QXn ?_))
   have cB := br.pickM [] [0] (by decide) rfl rfl
   exact fun a_ ha_ => cw _ _ ⟨j, rfl, cB, ai, ⟨by omega, by omega⟩, by rw [← hsc]; exact sd_stop1 (by omega)⟩ a_ (ha_.weaken (sub_of ⟨rfl, rfl, rfl, rfl, rfl, rfl, trivial⟩))
 rintro E_ fC ⟨j, rfl, cC, row_m86, ⟨hb1scanDown_, hb2scanDown_⟩, hscanDown_⟩
 refine WCs (fun eG aZ => WCs (fun eH a0 => WCg (WLz 3 [(65, .bool (decide ((i : Int) > (j : Int))))] (WLd rfl (QXn (a0 _ _ (WCa 65 (decide ((i : Int) > (j : Int))) rfl (fun a1 => ?_) (fun a1 => ?_))))))))
 ·
  have d2 : (j : Int) < (i : Int) := by have q_ := of_decide_eq_true a1; omega
  refine WCt rfl (WCs (fun eI bw => WC.drawC cC (blk (.slice A xs.length c)) (by kernel_rfl) (fun eJ cD cE ae => ?_)))
  have al := own_fr row_m86 cD (by simp)
  refine WDx 6 [(0, 66, .slice A xs.length c), (1, 67, I6 (j : Int)), (2, 68, .slice A xs.length c), (3, 69, I6 (a : Int)), (4, 70, .slice A xs.length c), (5, 71, I6 (a : Int))] ae ?_
  have ee := own_count (Go.Tw.encI_len _) (by decide) al
  obtain ⟨aR, a2⟩ := get_some (xs := L1) (i := a) (by omega)
  obtain ⟨b138, bx⟩ := own_addr (by decide) (Go.Tw.encI_len _) al a2
  refine WDi (NPt (NPt hN)) 6 A xs.length c 72 .i64 (a : Int) b138 0 a 1 (by kernel_rfl) (by kernel_rfl) bx (by omega) (by omega) a (by first | (simp; done) | omega) ae (WDx 2 [(8, 74, .slice A xs.length c), (9, 75, I6 (j : Int))] ae ?_)
  have ef := own_count (Go.Tw.encI_len _) (by decide) al
  obtain ⟨aS, aF⟩ := get_some (xs := L1) (i := j) (by omega)
  obtain ⟨b143, aG⟩ := own_addr (by decide) (Go.Tw.encI_len _) al aF
  refine WDi (NPt (NPt hN)) 10 A xs.length c 76 .i64 (j : Int) b143 0 j 1 (by kernel_rfl) (by kernel_rfl) aG (by omega) (by omega) j (by first | (simp; done) | omega) ae ?_
  refine two_loads 7 11 (Instr.loadAt 40 (P0 b138 a)) (Instr.loadAt 40 (P0 b143 j)) 73 77 (U4 aR) (U4 aS) (by kernel_rfl) (by kernel_rfl) (by kernel_rfl) (run_load1 rfl (by simpa [Nat.add_assoc] using Rd.cell (own_rd al (Go.Tw.encI_len _) (by decide)) bx a2 0 _ rfl)) (run_load1 rfl (by simpa [Nat.add_assoc] using Rd.cell (own_rd al (Go.Tw.encI_len _) (by decide)) aG aF 0 _ rfl)) ae (by kernel_rfl) (by kernel_rfl) (by kernel_rfl) (by kernel_rfl) (by decide) (by kernel_rfl) ?_
  refine WDi (NPt (NPt hN)) 12 A xs.length c 78 .i64 (j : Int) b143 0 j 1 (by kernel_rfl) (by kernel_rfl) aG (by omega) (by omega) j (by first | (simp; done) | omega) ae ?_
  obtain ⟨eK, cF, cG, a3, cH⟩ := stoE_run Tryz.prog (Go.Tw.encI_len _) cE 0 aG rfl al j 0 (x := aS) aF aR [U4 aR] rfl 40 (U4 aR) (j) rfl rfl rfl (by first | rfl | simp [Nat.add_assoc])
  have a4 := ae.trans cG (fun x_ hx_ => .inl hx_)
  refine WDu 13 cF a4 ?_
  have eg := own_count (Go.Tw.encI_len _) (by decide) a3
  obtain ⟨d3, bz⟩ := get_some (xs := L1.set j aR) (i := a) (by omega)
  obtain ⟨b158, bA⟩ := own_addr (by decide) (Go.Tw.encI_len _) a3 bz
  refine WDi (NPt (NPt hN)) 14 A xs.length c 79 .i64 (a : Int) b158 0 a 1 (by kernel_rfl) (by kernel_rfl) bA (by omega) (by omega) a (by first | (simp; done) | omega) a4 ?_
  obtain ⟨eL, cI, cJ, cK, cL⟩ := stoE_run Tryz.prog (Go.Tw.encI_len _) cH 0 bA rfl a3 a 0 (x := d3) bz aS [U4 aS] rfl 40 (U4 aS) (a) rfl rfl rfl (by first | rfl | simp [Nat.add_assoc])
  have cM := a4.trans cJ (fun x_ hx_ => .inl hx_)
  refine WDu 15 cI cM (WDd (QXn (bw _ _ (WCs (fun eM bB => WCg (WLz 3 [(9, .bool true), (8, I6 (j : Int))] (WLd rfl (QXn (bB _ _ ?_)))))))))
  refine WC.ret (QXr ?_)
  refine (hret _ _ _ rfl ?_).1
  clear hN hret hret' bB bw a0 aZ ce hK4 hK2
  have hpr_ : partLoop ltInt a (a + 1) (b - 1) (swp (aOf xs) a p) = (j, aOf L1) := by
   rw [← aSwp aV bl, ← hL1]; exact part_stop hscanUp_ hscanDown_ (by omega)
  exact ⟨_, _, by rw [partition_fst, hpr_]; rfl, cL.fr, cK, by rw [partition_arr, hpr_]; exact aSwp aF a2⟩
 ·
  have d2 : (i : Int) ≤ (j : Int) := by have q_ := of_decide_eq_false a1; omega
  refine WCf rfl (WC.skip (QXn (aZ _ _ (WCs (fun eN bC => WC.drawC cC (blk (.slice A xs.length c)) (by kernel_rfl) (fun eO cN cO af => ?_))))))
  have am := own_fr row_m86 cN (by simp)
  refine WDx 6 [(0, 81, .slice A xs.length c), (1, 82, I6 (i : Int)), (2, 83, .slice A xs.length c), (3, 84, I6 (j : Int)), (4, 85, .slice A xs.length c), (5, 86, I6 (j : Int))] af ?_
  have eh := own_count (Go.Tw.encI_len _) (by decide) am
  obtain ⟨au, a5⟩ := get_some (xs := L1) (i := j) (by omega)
  obtain ⟨b178, bD⟩ := own_addr (by decide) (Go.Tw.encI_len _) am a5
  refine WDi (NPt hN) 6 A xs.length c 87 .i64 (j : Int) b178 0 j 1 (by kernel_rfl) (by kernel_rfl) bD (by omega) (by omega) j (by first | (simp; done) | omega) af (WDx 2 [(8, 89, .slice A xs.length c), (9, 90, I6 (i : Int))] af ?_)
  have ei := own_count (Go.Tw.encI_len _) (by decide) am
  obtain ⟨av, aH⟩ := get_some (xs := L1) (i := i) (by omega)
  obtain ⟨b183, aI⟩ := own_addr (by decide) (Go.Tw.encI_len _) am aH
  refine WDi (NPt hN) 10 A xs.length c 91 .i64 (i : Int) b183 0 i 1 (by kernel_rfl) (by kernel_rfl) aI (by omega) (by omega) i (by first | (simp; done) | omega) af ?_
  refine two_loads 7 11 (Instr.loadAt 40 (P0 b178 j)) (Instr.loadAt 40 (P0 b183 i)) 88 92 (U4 au) (U4 av) (by kernel_rfl) (by kernel_rfl) (by kernel_rfl) (run_load1 rfl (by simpa [Nat.add_assoc] using Rd.cell (own_rd am (Go.Tw.encI_len _) (by decide)) bD a5 0 _ rfl)) (run_load1 rfl (by simpa [Nat.add_assoc] using Rd.cell (own_rd am (Go.Tw.encI_len _) (by decide)) aI aH 0 _ rfl)) af (by kernel_rfl) (by kernel_rfl) (by kernel_rfl) (by kernel_rfl) (by decide) (by kernel_rfl) ?_
  refine WDi (NPt hN) 12 A xs.length c 93 .i64 (i : Int) b183 0 i 1 (by kernel_rfl) (by kernel_rfl) aI (by omega) (by omega) i (by first | (simp; done) | omega) af ?_
  obtain ⟨eP, cP, cQ, a6, cR⟩ := stoE_run Tryz.prog (Go.Tw.encI_len _) cO 0 aI rfl am i 0 (x := av) aH au [U4 au] rfl 40 (U4 au) (i) rfl rfl rfl (by first | rfl | simp [Nat.add_assoc])
  have a7 := af.trans cQ (fun x_ hx_ => .inl hx_)
  refine WDu 13 cP a7 ?_
  have ej := own_count (Go.Tw.encI_len _) (by decide) a6
  obtain ⟨d4, bE⟩ := get_some (xs := L1.set i au) (i := j) (by omega)
  obtain ⟨b198, bF⟩ := own_addr (by decide) (Go.Tw.encI_len _) a6 bE
  refine WDi (NPt hN) 14 A xs.length c 94 .i64 (j : Int) b198 0 j 1 (by kernel_rfl) (by kernel_rfl) bF (by omega) (by omega) j (by first | (simp; done) | omega) a7 ?_
  obtain ⟨eQ, cS, cT, bG, cU⟩ := stoE_run Tryz.prog (Go.Tw.encI_len _) cR 0 bF rfl a6 j 0 (x := d4) bE av [U4 av] rfl 40 (U4 av) (j) rfl rfl rfl (by first | rfl | simp [Nat.add_assoc])
  have cV := a7.trans cT (fun x_ hx_ => .inl hx_)
  refine WDu 15 cS cV (WDd (QXn (bC _ _ (WCs (fun eR bH => WCg (WLz 2 [(96, I6 (IntKind.i64.wrap ((i : Int) + 1)))] ?_))))))
  refine WLt (show (I6 (IntKind.i64.wrap ((i : Int) + 1)) : Value) = I6 ((i + 1 : Nat) : Int) from by rw [wrap_in_i64 _ (by omega) (by omega)] <;> first | rfl | (congr 1; done) | (congr 1; omega)) (WLq 1 [(10, I6 ((i + 1 : Nat) : Int))] (WLd rfl (QXn (bH _ _ (WCs (fun eS bI => WCg (WLz 2 [(98, I6 (IntKind.i64.wrap ((j : Int) - 1)))] (WLt (show (I6 (IntKind.i64.wrap ((j : Int) - 1)) : Value) = I6 ((j - 1 : Nat) : Int) from by rw [wrap_in_i64 _ (by omega) (by omega)] <;> first | rfl | (congr 1; done) | (congr 1; omega)) ?_))))))))
  refine WLq 1 [(11, I6 ((j - 1 : Nat) : Int))] (WLd rfl (QXn (bI _ _ (WCs (fun eT bJ => WC.block ?_)))))
  have hpl_ : partLoop ltInt a (a + 1) (b - 1) (aOf L1) = partLoop ltInt a (i + 1) (j - 1) (aOf ((L1.set i au).set j av)) := part_go hscanUp_ hscanDown_ (by omega) aH a5
  refine WC.loop (fun m_ E_ w_ => ∃ (i j : Nat) (L : List Int), m_ = j + 1 - i ∧ E_ = [(0, .slice A xs.length c), (1, I6 (a : Int)), (2, I6 (b : Int)), (3, I6 (p : Int)), (10, I6 (i : Int)), (11, I6 (j : Int))] ∧ Cx w (blk (.slice A xs.length c)) w_ [] [blk (.slice A xs.length c)] ∧ World.ownsRow w_ 0 40 1 (.slice A xs.length c) xs.length (L.flatMap (Go.Tw.encI .u32)) ∧ ((a < i ∧ i ≤ j + 2 ∧ j < b) ∧ L.length = xs.length ∧ partLoop ltInt a i j (aOf L) = partLoop ltInt a (a + 1) (b - 1) (aOf L1))) ⟨_, _, ⟨i + 1, j - 1, (L1.set i au).set j av, rfl, rfl, cU, bG, ⟨by omega, by omega, by omega⟩, (own_count (Go.Tw.encI_len .u32) (by decide) bG), hpl_.symm⟩, sub_of ⟨rfl, rfl, rfl, rfl, rfl, rfl, trivial⟩⟩ (fun m216 E_ eU eV cW cX => ?_)
  obtain ⟨i, j, L, rfl, rfl, cY, hrow, ⟨hi1, hi2, hi3⟩, hL, hpt⟩ := cX
  refine WC.block (WC.seqI (fun E_ w_ => ∃ (i2 : Nat), E_ = [(0, .slice A xs.length c), (1, I6 (a : Int)), (2, I6 (b : Int)), (3, I6 (p : Int)), (10, I6 (i2 : Int)), (11, I6 (j : Int))] ∧ Cx w (blk (.slice A xs.length c)) w_ [] [blk (.slice A xs.length c)] ∧ World.ownsRow w_ 0 40 1 (.slice A xs.length c) xs.length (L.flatMap (Go.Tw.encI .u32)) ∧ ((i ≤ i2 ∧ i2 ≤ j + 2) ∧ scanUp (upP (aOf L) a) (aOf L) j i = i2)) (fun eW bK => ?_) ?_)
  ·
   refine WC.block (WC.loop (fun m_ E_ w_ => ∃ (i2 : Nat), m_ = j + 1 - i2 ∧ E_ = [(0, .slice A xs.length c), (1, I6 (a : Int)), (2, I6 (b : Int)), (3, I6 (p : Int)), (10, I6 (i2 : Int)), (11, I6 (j : Int))] ∧ Cx w (blk (.slice A xs.length c)) w_ [] [blk (.slice A xs.length c)] ∧ World.ownsRow w_ 0 40 1 (.slice A xs.length c) xs.length (L.flatMap (Go.Tw.encI .u32)) ∧ ((i ≤ i2 ∧ i2 ≤ j + 2) ∧ scanUp (upP (aOf L) a) (aOf L) j i2 = scanUp (upP (aOf L) a) (aOf L) j i)) ⟨_, _, ⟨i, rfl, rfl, cY, hrow, ⟨by omega, by omega⟩, rfl⟩, sub_of ⟨rfl, rfl, rfl, rfl, rfl, rfl, trivial⟩⟩ (fun m227 E_ eX eY cZ c0 => ?_))
   obtain ⟨i2, rfl, rfl, c1, row_m227, ⟨hb1_, hb2_⟩, hsc⟩ := c0
   refine WCs (fun eZ c2 => WCs (fun e0 bL => WC.drawC c1 [] (by kernel_rfl) (fun d5 c3 bM ac => ?_)))
   have aj := own_fr row_m227 c3 (by simp)
   refine WDx 4 [(0, 99, I6 (i2 : Int)), (1, 100, I6 (j : Int)), (2, 101, .bool (decide ((i2 : Int) ≤ (j : Int)))), (3, 102, .bool (decide ((i2 : Int) ≤ (j : Int))))] ac (WDa 102 (decide ((i2 : Int) ≤ (j : Int))) rfl (fun a8 => ?_) (fun a8 => ?_))
   ·
    have d6 : (i2 : Int) ≤ (j : Int) := by have q_ := of_decide_eq_true a8; omega
    refine WDx 2 [(4, 103, .slice A xs.length c), (5, 104, I6 (i2 : Int))] ac ?_
    have ek := own_count (Go.Tw.encI_len _) (by decide) aj
    obtain ⟨bp, aJ⟩ := get_some (xs := L) (i := i2) (by omega)
    obtain ⟨b242, bN⟩ := own_addr (by decide) (Go.Tw.encI_len _) aj aJ
    refine WDi (NPt (NPt (NPt (NPb (NPt (NPb (NPt (NPb (NPt hN))))))))) 6 A xs.length c 105 .i64 (i2 : Int) b242 0 i2 1 (by kernel_rfl) (by kernel_rfl) bN (by omega) (by omega) i2 (by first | (simp; done) | omega) ac (WDx 2 [(8, 107, .slice A xs.length c), (9, 108, I6 (a : Int))] ac ?_)
    have em := own_count (Go.Tw.encI_len _) (by decide) aj
    obtain ⟨bq, aK⟩ := get_some (xs := L) (i := a) (by omega)
    obtain ⟨b247, bO⟩ := own_addr (by decide) (Go.Tw.encI_len _) aj aK
    refine WDi (NPt (NPt (NPt (NPb (NPt (NPb (NPt (NPb (NPt hN))))))))) 10 A xs.length c 109 .i64 (a : Int) b247 0 a 1 (by kernel_rfl) (by kernel_rfl) bO (by omega) (by omega) a (by first | (simp; done) | omega) ac (WDm 7 40 (P0 b242 i2) (U4 bp) 106 (fun _ hS_ => run_load1 rfl (by simpa [Nat.add_assoc] using Rd.cell (own_rd (own_fr aj hS_ (by simp)) (Go.Tw.encI_len _) (by decide)) bN aJ 0 _ rfl)) ac (WDm 11 40 (P0 b247 a) (U4 bq) 110 (fun _ hS_ => run_load1 rfl (by simpa [Nat.add_assoc] using Rd.cell (own_rd (own_fr aj hS_ (by simp)) (Go.Tw.encI_len _) (by decide)) bO aK 0 _ rfl)) ac (WDc 12 (Less_ct bp bq d5) ?_)))
    rintro _ e1 ⟨rfl, a9⟩
    have bP := ac.trans a9 (by simp)
    refine ⟨_, rfl, bP, ?_⟩
    have bQ := bM.call a9
    have bR := own_fr aj a9 (by simp)
    refine WDq 13 112 (.bool (decide (bp < bq))) bP (WDd (QXn (bL _ _ (WCa 112 (decide (bp < bq)) rfl (fun ba => ?_) (fun ba => ?_)))))
    ·
     refine WCt rfl (WC.skip (QXn (c2 _ _ (WC.block (WCg (WLz 2 [(114, I6 (IntKind.i64.wrap ((i2 : Int) + 1)))] ?_))))))
     refine WLt (show (I6 (IntKind.i64.wrap ((i2 : Int) + 1)) : Value) = I6 ((i2 + 1 : Nat) : Int) from by rw [wrap_in_i64 _ (by omega) (by omega)] <;> first | rfl | (congr 1; done) | (congr 1; omega)) (WLq 1 [(10, I6 ((i2 + 1 : Nat) : Int))] (WLd rfl (QXb (QXn ?_))))
     have c4 := bQ.pick [] [0] rfl rfl
     refine fun a_ ha_ => cZ _ _ _ ?_ ⟨i2 + 1, rfl, rfl, c4, bR, ⟨by omega, by omega⟩, by rw [← hsc]; exact (su_go (by omega) aJ (by rw [upP_is aK, ba])).symm⟩ a_ (ha_.weaken (sub_of ⟨rfl, rfl, rfl, rfl, rfl, rfl, trivial⟩))
     omega
    ·
     refine WCf rfl (WC.exit (QXe (QXe (QX.block_hit (QXn ?_)))))
     have c5 := bQ.pickM [] [0] (by decide) rfl rfl
     exact fun a_ ha_ => bK _ _ ⟨i2, rfl, c5, bR, ⟨by omega, by omega⟩, by rw [← hsc]; exact su_stop2 aJ (by rw [upP_is aK, ba])⟩ a_ (ha_.weaken (sub_of ⟨rfl, rfl, rfl, rfl, rfl, rfl, trivial⟩))
   ·
    have d6 : (j : Int) < (i2 : Int) := by have q_ := of_decide_eq_false a8; omega
    refine WDx 10 [(4, 103, undef), (5, 104, undef), (6, 105, undef), (7, 106, undef), (8, 107, undef), (9, 108, undef), (10, 109, undef), (11, 110, undef), (12, 111, undef), (13, 112, .bool false)] ac (WDd (QXn (bL _ _ (WCf rfl (WC.exit (QXe ?_))))))
    refine QXe (QX.block_hit (QXn ?_))
    have c6 := bM.pickM [] [0] (by decide) rfl rfl
    exact fun a_ ha_ => bK _ _ ⟨i2, rfl, c6, aj, ⟨by omega, by omega⟩, by rw [← hsc]; exact su_stop1 (by omega)⟩ a_ (ha_.weaken (sub_of ⟨rfl, rfl, rfl, rfl, rfl, rfl, trivial⟩))
  rintro E_ e2 ⟨i2, rfl, c7, row_m221, ⟨hb1scanUp_, hb2scanUp_⟩, hscanUp_⟩
  refine WC.seqI (fun E_ w_ => ∃ (j2 : Nat), E_ = [(0, .slice A xs.length c), (1, I6 (a : Int)), (2, I6 (b : Int)), (3, I6 (p : Int)), (10, I6 (i2 : Int)), (11, I6 (j2 : Int))] ∧ Cx w (blk (.slice A xs.length c)) w_ [] [blk (.slice A xs.length c)] ∧ World.ownsRow w_ 0 40 1 (.slice A xs.length c) xs.length (L.flatMap (Go.Tw.encI .u32)) ∧ ((j2 ≤ j ∧ i2 ≤ j2 + 2) ∧ scanDown (dnP (aOf L) a) (aOf L) i2 j = j2)) (fun e3 bS => ?_) ?_
  ·
   refine WC.block (WC.loop (fun m_ E_ w_ => ∃ (j2 : Nat), m_ = j2 + 1 ∧ E_ = [(0, .slice A xs.length c), (1, I6 (a : Int)), (2, I6 (b : Int)), (3, I6 (p : Int)), (10, I6 (i2 : Int)), (11, I6 (j2 : Int))] ∧ Cx w (blk (.slice A xs.length c)) w_ [] [blk (.slice A xs.length c)] ∧ World.ownsRow w_ 0 40 1 (.slice A xs.length c) xs.length (L.flatMap (Go.Tw.encI .u32)) ∧ ((j2 ≤ j ∧ i2 ≤ j2 + 2) ∧ scanDown (dnP (aOf L) a) (aOf L) i2 j2 = scanDown (dnP (aOf L) a) (aOf L) i2 j)) ⟨_, _, ⟨j, rfl, rfl, c7, row_m221, ⟨by omega, by omega⟩, rfl⟩, sub_of ⟨rfl, rfl, rfl, rfl, rfl, rfl, trivial⟩⟩ (fun m267 E_ e4 e5 c8 c9 => ?_))
   obtain ⟨j2, rfl, rfl, da, row_m267, ⟨hb1_, hb2_⟩, hsc⟩ := c9
   refine WCs (fun e6 db => WCs (fun e7 bT => WC.drawC da [] (by kernel_rfl) (fun d7 dc bU ab => ?_)))
   have ak := own_fr row_m267 dc (by simp)
   refine WDx 4 [(0, 115, I6 (i2 : Int)), (1, 116, I6 (j2 : Int)), (2, 117, .bool (decide ((i2 : Int) ≤ (j2 : Int)))), (3, 118, .bool (decide ((i2 : Int) ≤ (j2 : Int))))] ab (WDa 118 (decide ((i2 : Int) ≤ (j2 : Int))) rfl (fun bb => ?_) (fun bb => ?_))
   ·
    have d8 : (i2 : Int) ≤ (j2 : Int) := by have q_ := of_decide_eq_true bb; omega
    refine WDx 2 [(4, 119, .slice A xs.length c), (5, 120, I6 (j2 : Int))] ab ?_
    have en := own_count (Go.Tw.encI_len _) (by decide) ak
    obtain ⟨az, aL⟩ := get_some (xs := L) (i := j2) (by omega)
    obtain ⟨b282, bV⟩ := own_addr (by decide) (Go.Tw.encI_len _) ak aL
    refine WDi (NPt (NPt (NPt (NPb (NPt (NPb (NPt (NPb (NPt hN))))))))) 6 A xs.length c 121 .i64 (j2 : Int) b282 0 j2 1 (by kernel_rfl) (by kernel_rfl) bV (by omega) (by omega) j2 (by first | (simp; done) | omega) ab (WDx 2 [(8, 123, .slice A xs.length c), (9, 124, I6 (a : Int))] ab ?_)
    have eo := own_count (Go.Tw.encI_len _) (by decide) ak
    obtain ⟨aA, aM⟩ := get_some (xs := L) (i := a) (by omega)
    obtain ⟨b287, bW⟩ := own_addr (by decide) (Go.Tw.encI_len _) ak aM
    refine WDi (NPt (NPt (NPt (NPb (NPt (NPb (NPt (NPb (NPt hN))))))))) 10 A xs.length c 125 .i64 (a : Int) b287 0 a 1 (by kernel_rfl) (by kernel_rfl) bW (by omega) (by omega) a (by first | (simp; done) | omega) ab (WDm 7 40 (P0 b282 j2) (U4 az) 122 (fun _ hS_ => run_load1 rfl (by simpa [Nat.add_assoc] using Rd.cell (own_rd (own_fr ak hS_ (by simp)) (Go.Tw.encI_len _) (by decide)) bV aL 0 _ rfl)) ab (WDm 11 40 (P0 b287 a) (U4 aA) 126 (fun _ hS_ => run_load1 rfl (by simpa [Nat.add_assoc] using Rd.cell (own_rd (own_fr ak hS_ (by simp)) (Go.Tw.encI_len _) (by decide)) bW aM 0 _ rfl)) ab (WDc 12 (Less_ct az aA d7) ?_)))
    rintro _ e8 ⟨rfl, bc⟩
    have bd := ab.trans bc (by simp)
    refine ⟨_, rfl, bd, ?_⟩
    have bX := bU.call bc
    have bY := own_fr ak bc (by simp)
    refine WDx 2 [(13, 128, .bool (!(decide (az < aA)))), (14, 129, .bool (!(decide (az < aA))))] bd (WDd (QXn (bT _ _ (WCa 129 (!(decide (az < aA))) rfl (fun aw => ?_) (fun aw => ?_)))))
    ·
     have ck : (decide (az < aA)) = false := by first | (simpa only [Bool.not_eq_true', Bool.not_eq_false'] using aw) | simpa using aw
     refine WCt rfl (WC.skip (QXn (db _ _ (WC.block (WCg (WLz 2 [(131, I6 (IntKind.i64.wrap ((j2 : Int) - 1)))] ?_))))))
     refine WLt (show (I6 (IntKind.i64.wrap ((j2 : Int) - 1)) : Value) = I6 ((j2 - 1 : Nat) : Int) from by rw [wrap_in_i64 _ (by omega) (by omega)] <;> first | rfl | (congr 1; done) | (congr 1; omega)) (WLq 1 [(11, I6 ((j2 - 1 : Nat) : Int))] (WLd rfl (QXb (QXn ?_))))
     have dd := bX.pick [] [0] rfl rfl
     refine fun a_ ha_ => c8 _ _ _ ?_ ⟨j2 - 1, rfl, rfl, dd, bY, ⟨by omega, by omega⟩, by rw [← hsc]; exact (sd_go (by omega) (by omega) aL (by rw [dnP_is aM, ck]; rfl)).symm⟩ a_ (ha_.weaken (sub_of ⟨rfl, rfl, rfl, rfl, rfl, rfl, trivial⟩))
     omega
    ·
     have ck : (decide (az < aA)) = true := by first | (simpa only [Bool.not_eq_true', Bool.not_eq_false'] using aw) | simpa using aw
     refine WCf rfl (WC.exit (QXe (QXe (QX.block_hit (QXn ?_)))))
     have de := bX.pickM [] [0] (by decide) rfl rfl
     exact fun a_ ha_ => bS _ _ ⟨j2, rfl, de, bY, ⟨by omega, by omega⟩, by rw [← hsc]; exact sd_stop2 aL (by rw [dnP_is aM, ck]; rfl)⟩ a_ (ha_.weaken (sub_of ⟨rfl, rfl, rfl, rfl, rfl, rfl, trivial⟩))
   ·
    have d8 : (j2 : Int) < (i2 : Int) := by have q_ := of_decide_eq_false bb; omega
    refine WDx 11 [(4, 119, undef), (5, 120, undef), (6, 121, undef), (7, 122, undef), (8, 123, undef), (9, 124, undef), (10, 125, undef), (11, 126, undef), (12, 127, undef), (13, 128, undef), (14, 129, .bool false)] ab (WDd (QXn (bT _ _ (WCf rfl (WC.exit (QXe ?_))))))
    refine QXe (QX.block_hit (QXn ?_))
    have df := bU.pickM [] [0] (by decide) rfl rfl
    exact fun a_ ha_ => bS _ _ ⟨j2, rfl, df, ak, ⟨by omega, by omega⟩, by rw [← hsc]; exact sd_stop1 (by omega)⟩ a_ (ha_.weaken (sub_of ⟨rfl, rfl, rfl, rfl, rfl, rfl, trivial⟩))
  rintro E_ e9 ⟨j2, rfl, bZ, row_m261, ⟨hb1scanDown_, hb2scanDown_⟩, hscanDown_⟩
  refine WCs (fun fa b0 => WCs (fun fb b1 => WCg (WLz 3 [(134, .bool (decide ((i2 : Int) > (j2 : Int))))] (WLd rfl (QXn (b1 _ _ (WCa 134 (decide ((i2 : Int) > (j2 : Int))) rfl (fun be => ?_) (fun be => ?_))))))))
  ·
   have d9 : (j2 : Int) < (i2 : Int) := by have q_ := of_decide_eq_true be; omega
   refine WCt rfl (WC.exit (QXe (QX.block_miss (by decide) (QXe (QX.block_hit ?_)))))
   refine QXn (bJ _ _ (WCs (fun fc b2 => WC.drawC bZ (blk (.slice A xs.length c)) (by kernel_rfl) (fun fd dg dh ag => ?_))))
   have an := own_fr row_m261 dg (by simp)
   refine WDx 6 [(0, 153, .slice A xs.length c), (1, 154, I6 (j2 : Int)), (2, 155, .slice A xs.length c), (3, 156, I6 (a : Int)), (4, 157, .slice A xs.length c), (5, 158, I6 (a : Int))] ag ?_
   have ep := own_count (Go.Tw.encI_len _) (by decide) an
   obtain ⟨aT, bf⟩ := get_some (xs := L) (i := a) (by omega)
   obtain ⟨b313, b3⟩ := own_addr (by decide) (Go.Tw.encI_len _) an bf
   refine WDi (NPt hN) 6 A xs.length c 159 .i64 (a : Int) b313 0 a 1 (by kernel_rfl) (by kernel_rfl) b3 (by omega) (by omega) a (by first | (simp; done) | omega) ag (WDx 2 [(8, 161, .slice A xs.length c), (9, 162, I6 (j2 : Int))] ag ?_)
   have er := own_count (Go.Tw.encI_len _) (by decide) an
   obtain ⟨aU, aN⟩ := get_some (xs := L) (i := j2) (by omega)
   obtain ⟨b318, aO⟩ := own_addr (by decide) (Go.Tw.encI_len _) an aN
   refine WDi (NPt hN) 10 A xs.length c 163 .i64 (j2 : Int) b318 0 j2 1 (by kernel_rfl) (by kernel_rfl) aO (by omega) (by omega) j2 (by first | (simp; done) | omega) ag ?_
   refine two_loads 7 11 (Instr.loadAt 40 (P0 b313 a)) (Instr.loadAt 40 (P0 b318 j2)) 160 164 (U4 aT) (U4 aU) (by kernel_rfl) (by kernel_rfl) (by kernel_rfl) (run_load1 rfl (by simpa [Nat.add_assoc] using Rd.cell (own_rd an (Go.Tw.encI_len _) (by decide)) b3 bf 0 _ rfl)) (run_load1 rfl (by simpa [Nat.add_assoc] using Rd.cell (own_rd an (Go.Tw.encI_len _) (by decide)) aO aN 0 _ rfl)) ag (by kernel_rfl) (by kernel_rfl) (by kernel_rfl) (by kernel_rfl) (by decide) (by kernel_rfl) ?_
   refine WDi (NPt hN) 12 A xs.length c 165 .i64 (j2 : Int) b318 0 j2 1 (by kernel_rfl) (by kernel_rfl) aO (by omega) (by omega) j2 (by first | (simp; done) | omega) ag ?_
   obtain ⟨fe, di, dj, bg, dk⟩ := stoE_run Tryz.prog (Go.Tw.encI_len _) dh 0 aO rfl an j2 0 (x := aU) aN aT [U4 aT] rfl 40 (U4 aT) (j2) rfl rfl rfl (by first | rfl | simp [Nat.add_assoc])
   have bh := ag.trans dj (fun x_ hx_ => .inl hx_)
   refine WDu 13 di bh ?_
   have es := own_count (Go.Tw.encI_len _) (by decide) bg
   obtain ⟨ea, b4⟩ := get_some (xs := L.set j2 aT) (i := a) (by omega)
   obtain ⟨b333, b5⟩ := own_addr (by decide) (Go.Tw.encI_len _) bg b4
   refine WDi (NPt hN) 14 A xs.length c 166 .i64 (a : Int) b333 0 a 1 (by kernel_rfl) (by kernel_rfl) b5 (by omega) (by omega) a (by first | (simp; done) | omega) bh ?_
   obtain ⟨ff, dl, dm, dn, dp⟩ := stoE_run Tryz.prog (Go.Tw.encI_len _) dk 0 b5 rfl bg a 0 (x := ea) b4 aU [U4 aU] rfl 40 (U4 aU) (a) rfl rfl rfl (by first | rfl | simp [Nat.add_assoc])
   have dq := bh.trans dm (fun x_ hx_ => .inl hx_)
   refine WDu 15 dl dq (WDd (QXn (b2 _ _ (WCs (fun fg b6 => WCg (WLz 3 [(9, .bool false), (8, I6 (j2 : Int))] (WLd rfl (QXn (b6 _ _ ?_)))))))))
   refine WC.ret ?_
   refine (hret _ _ _ rfl ?_).1
   clear hN hret hret' b6 b2 b1 b0 bJ bI bH bC a0 aZ ce hK4 hK2
   have hpr_ : partLoop ltInt a (a + 1) (b - 1) (swp (aOf xs) a p) = (j2, aOf L) := by
    rw [← aSwp aV bl, ← hL1]; exact (hpt.symm.trans (part_stop hscanUp_ hscanDown_ (by omega)))
   exact ⟨_, _, by rw [partition_fst, hpr_]; rfl, dp.fr, dn, by rw [partition_arr, hpr_]; exact aSwp aN bf⟩
  ·
   have d9 : (i2 : Int) ≤ (j2 : Int) := by have q_ := of_decide_eq_false be; omega
   refine WCf rfl (WC.skip (QXn (b0 _ _ (WCs (fun fh dr => WC.drawC bZ (blk (.slice A xs.length c)) (by kernel_rfl) (fun fi ds dt ah => ?_))))))
   have ao := own_fr row_m261 ds (by simp)
   refine WDx 6 [(0, 135, .slice A xs.length c), (1, 136, I6 (i2 : Int)), (2, 137, .slice A xs.length c), (3, 138, I6 (j2 : Int)), (4, 139, .slice A xs.length c), (5, 140, I6 (j2 : Int))] ah ?_
   have et := own_count (Go.Tw.encI_len _) (by decide) ao
   obtain ⟨aB, bi⟩ := get_some (xs := L) (i := j2) (by omega)
   obtain ⟨b353, b7⟩ := own_addr (by decide) (Go.Tw.encI_len _) ao bi
   refine WDi (NPt (NPb (NPt (NPb (NPt hN))))) 6 A xs.length c 141 .i64 (j2 : Int) b353 0 j2 1 (by kernel_rfl) (by kernel_rfl) b7 (by omega) (by omega) j2 (by first | (simp; done) | omega) ah (WDx 2 [(8, 143, .slice A xs.length c), (9, 144, I6 (i2 : Int))] ah ?_)
   have eu := own_count (Go.Tw.encI_len _) (by decide) ao
   obtain ⟨aC, aP⟩ := get_some (xs := L) (i := i2) (by omega)
   obtain ⟨b358, aQ⟩ := own_addr (by decide) (Go.Tw.encI_len _) ao aP
   refine WDi (NPt (NPb (NPt (NPb (NPt hN))))) 10 A xs.length c 145 .i64 (i2 : Int) b358 0 i2 1 (by kernel_rfl) (by kernel_rfl) aQ (by omega) (by omega) i2 (by first | (simp; done) | omega) ah ?_
   refine two_loads 7 11 (Instr.loadAt 40 (P0 b353 j2)) (Instr.loadAt 40 (P0 b358 i2)) 142 146 (U4 aB) (U4 aC) (by kernel_rfl) (by kernel_rfl) (by kernel_rfl) (run_load1 rfl (by simpa [Nat.add_assoc] using Rd.cell (own_rd ao (Go.Tw.encI_len _) (by decide)) b7 bi 0 _ rfl)) (run_load1 rfl (by simpa [Nat.add_assoc] using Rd.cell (own_rd ao (Go.Tw.encI_len _) (by decide)) aQ aP 0 _ rfl)) ah (by kernel_rfl) (by kernel_rfl) (by kernel_rfl) (by kernel_rfl) (by decide) (by kernel_rfl) ?_
   refine WDi (NPt (NPb (NPt (NPb (NPt hN))))) 12 A xs.length c 147 .i64 (i2 : Int) b358 0 i2 1 (by kernel_rfl) (by kernel_rfl) aQ (by omega) (by omega) i2 (by first | (simp; done) | omega) ah ?_
   obtain ⟨fj, du, dv, bj, dw⟩ := stoE_run Tryz.prog (Go.Tw.encI_len _) dt 0 aQ rfl ao i2 0 (x := aC) aP aB [U4 aB] rfl 40 (U4 aB) (i2) rfl rfl rfl (by first | rfl | simp [Nat.add_assoc])
   have bk := ah.trans dv (fun x_ hx_ => .inl hx_)
   refine WDu 13 du bk ?_
   have ev := own_count (Go.Tw.encI_len _) (by decide) bj
   obtain ⟨eb, b8⟩ := get_some (xs := L.set i2 aB) (i := j2) (by omega)
   obtain ⟨b373, b9⟩ := own_addr (by decide) (Go.Tw.encI_len _) bj b8
   refine WDi (NPt (NPb (NPt (NPb (NPt hN))))) 14 A xs.length c 148 .i64 (j2 : Int) b373 0 j2 1 (by kernel_rfl) (by kernel_rfl) b9 (by omega) (by omega) j2 (by first | (simp; done) | omega) bk ?_
   obtain ⟨fk, dx, dy, dz, dA⟩ := stoE_run Tryz.prog (Go.Tw.encI_len _) dw 0 b9 rfl bj j2 0 (x := eb) b8 aC [U4 aC] rfl 40 (U4 aC) (j2) rfl rfl rfl (by first | rfl | simp [Nat.add_assoc])
   have dB := bk.trans dy (fun x_ hx_ => .inl hx_)
   refine WDu 15 dx dB (WDd (QXn (dr _ _ (WCs (fun fl dC => WCg (WLz 2 [(150, I6 (IntKind.i64.wrap ((i2 : Int) + 1)))] ?_))))))
   refine WLt (show (I6 (IntKind.i64.wrap ((i2 : Int) + 1)) : Value) = I6 ((i2 + 1 : Nat) : Int) from by rw [wrap_in_i64 _ (by omega) (by omega)] <;> first | rfl | (congr 1; done) | (congr 1; omega)) (WLq 1 [(10, I6 ((i2 + 1 : Nat) : Int))] (WLd rfl (QXn (dC _ _ (WCg (WLz 2 [(152, I6 (IntKind.i64.wrap ((j2 : Int) - 1)))] (WLt (show (I6 (IntKind.i64.wrap ((j2 : Int) - 1)) : Value) = I6 ((j2 - 1 : Nat) : Int) from by rw [wrap_in_i64 _ (by omega) (by omega)] <;> first | rfl | (congr 1; done) | (congr 1; omega)) (WLq 1 [(11, I6 ((j2 - 1 : Nat) : Int))] ?_))))))))
   refine WLd rfl (QXb (QXn ?_))
   have dD := dA.pick [] [0] rfl rfl
   refine fun a_ ha_ => cW _ _ _ ?_ ⟨i2 + 1, j2 - 1, (L.set i2 aB).set j2 aC, rfl, rfl, dD, dz, ⟨by omega, by omega, by omega⟩, (set2_len _ _ _ _ _).trans hL, by rw [← hpt]; exact (part_go hscanUp_ hscanDown_ (by omega) aP bi).symm⟩ a_ (ha_.weaken (sub_of ⟨rfl, rfl, rfl, rfl, rfl, rfl, trivial⟩))
   omega

theorem prt_n (A : Option Addr) (c n : Nat) (xs : List Int) (hn : xs.length = n) (a b p : Nat) (w : World) (hown : w.ownsRow 0 40 1 (.slice A n c) n (xs.flatMap (Go.Tw.encI .u32))) (hlen : n ≤ 1099511627776) (hap : a ≤ p) (hpb : p < b) (hb : b ≤ n) : Calls Tryz.prog 105 #[.slice A n c, .int .i64 (a : Int), .int .i64 (b : Int), .int .i64 (p : Int)] w fun e w' => ∃ (ap : Bool) (ys : List Int), e = .returned (.tuple #[.int .i64 ((partition ltInt (aOf xs) a b p).1 : Int), .bool ap]) ∧ Fr w w' (blk (.slice A n c)) ∧ w'.ownsRow 0 40 1 (.slice A n c) n (ys.flatMap (Go.Tw.encI .u32)) ∧ aOf ys = (partition ltInt (aOf xs) a b p).2.2 := by subst hn; exact prt_ct A c xs a b p w hown hlen hap hpb hb
end Go.Proofs.YtfligklljkcbfaaGreatDoor
