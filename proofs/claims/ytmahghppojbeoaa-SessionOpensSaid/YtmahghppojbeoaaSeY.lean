/- Contracts of functions of the program, each proved by a walk through its code; conditions stand in the statements. -/
import Derived.Test.YtmahghppojbeoaaSeK
import Derived.Test.YtmahghppojbeoaaSeS
import Derived.Sort.AssemblyPlain
import Derived.Shelf.SortM.Walk7aInS
import Derived.Sort.EveryDepth
import Derived.WalkSmall
namespace Go.Proofs.Ytmahghppojbeoaa
set_option linter.unusedSimpArgs false
set_option linter.unusedVariables false
set_option linter.unusedSectionVars false
open Go Go.RowKit Go.Tw
set_option linter.unusedVariables false
set_option maxRecDepth 20000
open Go.Sort
theorem and_bd {y m : Int} (h0 : 0 ≤ y) (h1 : y ≤ 18446744073709551615) (m0 : 0 ≤ m) (m1 : m ≤ 18446744073709551615) : ∃ z : Nat, Go.bits .and .u64 y m = (z : Int) ∧ (z : Int) ≤ m := by
  have h := bits_and_u64_nat y.toNat m.toNat (by omega) (by omega)
  rw [Int.toNat_of_nonneg h0, Int.toNat_of_nonneg m0] at h
  refine ⟨_, h, ?_⟩
  have := Nat.and_le_right (n := y.toNat) (m := m.toNat)
  omega
theorem pow2_ct (n : Nat) (hn : n ≤ 1099511627776) (h0 : 0 < n) (w : World) : Calls Try.prog 91 #[.int .i64 (n : Int)] w fun e w' => ∃ M : Nat, e = .returned (.int .u64 (M : Int)) ∧ Fr w w' [] ∧ 0 < M ∧ M ≤ 2 * n :=
  Calls.mono (Go.calls_of_every_depth fun D => Go.Proofs.AnySM.nextPowerOfTwoInS (P := Try.prog) (ρ := Go.Proofs.SkKeys.sortA_ren) { Go.Proofs.SkKeys.sortA with } D n (by omega) w) fun _ _ ⟨h, h2⟩ => ⟨_, h, h2 ▸ Fr.refl _ _, by rw [Nat.one_shiftLeft]; exact Nat.two_pow_pos _, by rw [Nat.one_shiftLeft]; exact two_pow_bitsLen_le h0⟩
theorem next_ct (p X : Nat) (hX : X < 18446744073709551616) (w : World) (hp : w.heap[p]? = some (.cells #[.int .u64 (X : Int)] 136 (0, 0))) : Calls Try.prog 92 #[.pointer (some ⟨p, 0, none⟩)] w fun e w' => ∃ Y : Nat, e = .returned (.int .u64 (Y : Int)) ∧ Fr w w' [p] ∧ w'.heap[p]? = some (.cells #[.int .u64 (Y : Int)] 136 (0, 0)) ∧ Y < 18446744073709551616 := by
  have hc : w.cell? ⟨p, 0, none⟩ = some (.int .u64 (X : Int)) := by simp [World.cell?, hp]
  have hf : w.frozen? ⟨p, 0, none⟩ = false := by simp [World.frozen?, hp]
  refine Calls.mono (Go.calls_of_every_depth fun D => Go.Proofs.AnySM.xorshift_NextInS (P := Try.prog) (ρ := Go.Proofs.SkKeys.sortA_ren) { Go.Proofs.SkKeys.sortA with } D p 0 X hX w hc hf) fun e w' ⟨he, hw⟩ => ?_
  subst hw
  rw [setCell_putRow hp]
  have h1 := putRow_fr (w := w) p (.cells (#[Value.int .u64 (X : Int)].setIfInBounds 0 (.int .u64 (Go.Sort.xorNextN X : Nat))) 136 (0, 0))
  exact ⟨Go.Sort.xorNextN X, he, ⟨h1.os, h1.tape, h1.output, h1.size, h1.block, fun d => Nat.le_trans (h1.drawn d) (Nat.le_add_right _ _)⟩, (putRow_same (lt_of_heap hp)).trans rfl, Go.Sort.xorNextN_lt X hX⟩
set_option maxHeartbeats 1000000 in
theorem brk_ct (A : Option Addr) (c : Nat) (xs : List Int) (a b : Nat)  (w : World) (hown : w.ownsRow 0 44 1 (.slice A xs.length c) xs.length (xs.flatMap (Go.Tw.encI .u32))) (hlen : xs.length ≤ 1099511627776) (hab : a < b) (hb : b ≤ xs.length) : Calls Try.prog 72 #[.slice A xs.length c, .int .i64 (a : Int), .int .i64 (b : Int)] w fun e w' => ∃ ys : List Int, e = .returned (.tuple #[]) ∧ Fr w w' (blk (.slice A xs.length c)) ∧ w'.ownsRow 0 44 1 (.slice A xs.length c) xs.length (ys.flatMap (Go.Tw.encI .u32)) ∧ PermIn a b (aOf xs) (aOf ys) := by
 refine enterD (n := 65) Try.func72 rfl rfl (Nat.le_of_ble_eq_true rfl) ?_
 intro Q0 hN hret hret'
 have hcc_ := own_le hown
 have hC := Cx.start1 w (own_lt hown)
 have hLs_ := own_count (Go.Tw.encI_len .u32) (by decide) hown
 refine WCs (fun K1 hK2 => ?_)
 refine WCg (WLq 3 [(13, .int .i64 (IntKind.i64.wrap ((b : Int) - (a : Int)))), (12, .int .i64 (a : Int)), (11, .int .i64 (b : Int))] ?_)
 refine WLt (show (.int .i64 (IntKind.i64.wrap ((b : Int) - (a : Int))) : Value) = .int .i64 ((b - a : Nat) : Int) from by rw [wrap_in_i64 _ (by omega) (by omega)] <;> first | rfl | (congr 1; done) | (congr 1; omega)) ?_
 refine WLq 1 [(6, .int .i64 ((b - a : Nat) : Int))] (WLd rfl (QXn (hK2 _ _ ?_)))
 refine WCs (fun K3 hK4 => ?_)
 refine WCg (WLq 2 [(15, .bool (decide (((b - a : Nat) : Int) ≥ 8))), (14, .int .i64 ((b - a : Nat) : Int))] (WLd rfl (QXn (hK4 _ _ ?_))))
 refine WCa 15 (decide (((b - a : Nat) : Int) ≥ 8)) rfl (fun t5b => ?_) (fun t5b => ?_)
 ·
  have t5 : (8 : Int) ≤ ((b - a : Nat) : Int) := by have q_ := of_decide_eq_true t5b; omega
  refine WCt rfl ?_
  refine WCs (fun K6 hK7 => ?_)
  refine WCg (WLq 2 [(17, .int .u64 (IntKind.u64.wrap (((b - a : Nat) : Int)))), (16, .int .i64 ((b - a : Nat) : Int))] ?_)
  refine WLt (show (.int .u64 (IntKind.u64.wrap (((b - a : Nat) : Int))) : Value) = .int .u64 ((b - a : Nat) : Int) from by rw [wrap_in_u64 _ (by omega) (by omega)]) ?_
  refine WL.newM hC (fun b => .pointer (some ⟨b, 0, none⟩)) (.cells #[.int .u64 0] 136) 7 (fun _ => by kernel_rfl) (fun g8 w9 a2 ax am => ?_)
  have ay := own_fr hown ax (by simp)
  refine WLs (c' := #[.int .u64 ((b - a : Nat) : Int)]) am 0 136 g8 0 (.int .u64 ((b - a : Nat) : Int)) (by kernel_rfl) rfl (by kernel_rfl) (fun a3 az aA => ?_)
  have aB := own_fr ay az (am.apartM 0 0 rfl rfl)
  refine WLd rfl (QXn (hK7 _ _ ?_))
  refine WCs (fun bc aC => ?_)
  refine WCg (WLq 1 [(18, .int .i64 ((b - a : Nat) : Int))] ?_)
  refine WLc rfl rfl rfl rfl rfl (by kernel_rfl) (pow2_ct (b - a) (by omega) (by omega) a3) ?_
  rintro _ bd ⟨M2, rfl, an, hM0_, hM1_⟩
  have aD := aA.call an
  refine ⟨_, rfl, ?_⟩
  have aE := own_fr aB an (by simp)
  refine WLq 1 [(8, .int .u64 (M2 : Int))] (WLd rfl (QXn (aC _ _ ?_)))
  refine WCs (fun be aF => ?_)
  refine WCg (WLq 3 [(22, .int .i64 (IntKind.i64.wrap (Int.tdiv ((b - a : Nat) : Int) 4))), (21, .int .i64 ((b - a : Nat) : Int)), (20, .int .i64 (a : Int))] ?_)
  refine WLt (show (.int .i64 (IntKind.i64.wrap (Int.tdiv ((b - a : Nat) : Int) 4)) : Value) = .int .i64 (((b - a) / 4 : Nat) : Int) from by rw [Int.tdiv_eq_ediv_of_nonneg (by omega), wrap_in_i64 _ (by omega) (by omega)] <;> first | rfl | (congr 1; done) | (congr 1; omega)) ?_
  refine WLq 1 [(23, .int .i64 (IntKind.i64.wrap ((((b - a) / 4 : Nat) : Int) * 2)))] ?_
  refine WLt (show (.int .i64 (IntKind.i64.wrap ((((b - a) / 4 : Nat) : Int) * 2)) : Value) = .int .i64 (((b - a) / 4 * 2 : Nat) : Int) from by rw [wrap_in_i64 _ (by omega) (by omega)] <;> first | rfl | (congr 1; done) | (congr 1; omega)) ?_
  refine WLq 1 [(24, .int .i64 (IntKind.i64.wrap ((a : Int) + (((b - a) / 4 * 2 : Nat) : Int))))] ?_
  refine WLt (show (.int .i64 (IntKind.i64.wrap ((a : Int) + (((b - a) / 4 * 2 : Nat) : Int))) : Value) = .int .i64 ((a + (b - a) / 4 * 2 : Nat) : Int) from by rw [wrap_in_i64 _ (by omega) (by omega)] <;> first | rfl | (congr 1; done) | (congr 1; omega)) ?_
  refine WLq 1 [(25, .int .i64 (IntKind.i64.wrap (((a + (b - a) / 4 * 2 : Nat) : Int) - 1)))] ?_
  refine WLt (show (.int .i64 (IntKind.i64.wrap (((a + (b - a) / 4 * 2 : Nat) : Int) - 1)) : Value) = .int .i64 ((a + (b - a) / 4 * 2 - 1 : Nat) : Int) from by rw [wrap_in_i64 _ (by omega) (by omega)] <;> first | rfl | (congr 1; done) | (congr 1; omega)) ?_
  refine WLq 1 [(9, .int .i64 ((a + (b - a) / 4 * 2 - 1 : Nat) : Int))] (WLd rfl (QXn (aF _ _ ?_)))
  refine WC.block ?_
  have hl8_ : 8 ≤ b - a := by omega
  refine WC.loop (fun m_ E_ w_ => ∃ (i : Nat) (L : List Int) (y5 : Nat), m_ = a + (b - a) / 4 * 2 + 2 - i ∧ E_ = [(0, .slice A xs.length c), (1, .int .i64 (a : Int)), (2, .int .i64 (b : Int)), (6, .int .i64 ((b - a : Nat) : Int)), (7, .pointer (some ⟨g8, 0, none⟩)), (8, .int .u64 (M2 : Int)), (9, .int .i64 (i : Int))] ∧ Cx w (blk (.slice A xs.length c)) w_ [(g8, .cells #[.int .u64 (y5 : Int)] 136)] [blk (.slice A xs.length c)] ∧ World.ownsRow w_ 0 44 1 (.slice A xs.length c) xs.length (L.flatMap (Go.Tw.encI .u32)) ∧ (y5 < 18446744073709551616 ∧ (a ≤ i ∧ i ≤ a + (b - a) / 4 * 2 + 2) ∧ L.length = xs.length ∧ PermIn a b (aOf xs) (aOf L))) ⟨_, _, ⟨a + (b - a) / 4 * 2 - 1, xs, (b - a), rfl, rfl, aD, aE, by omega, ⟨by omega, by omega⟩, rfl, permIn_refl _ _ _⟩, sub_of ⟨rfl, rfl, rfl, rfl, rfl, rfl, rfl, trivial⟩⟩ (fun m30 E_ a4 bf aG aH => ?_)
  obtain ⟨i, L, y5, rfl, rfl, ac, hrow, hy5, ⟨hi1, hi2⟩, hL, hpm⟩ := aH
  refine WCs (fun bg aI => ?_)
  refine WCs (fun bh aJ => ?_)
  refine WCg (WLq 4 [(29, .int .i64 (IntKind.i64.wrap (Int.tdiv ((b - a : Nat) : Int) 4))), (28, .int .i64 ((b - a : Nat) : Int)), (27, .int .i64 (a : Int)), (26, .int .i64 (i : Int))] ?_)
  refine WLt (show (.int .i64 (IntKind.i64.wrap (Int.tdiv ((b - a : Nat) : Int) 4)) : Value) = .int .i64 (((b - a) / 4 : Nat) : Int) from by rw [Int.tdiv_eq_ediv_of_nonneg (by omega), wrap_in_i64 _ (by omega) (by omega)] <;> first | rfl | (congr 1; done) | (congr 1; omega)) ?_
  refine WLq 1 [(30, .int .i64 (IntKind.i64.wrap ((((b - a) / 4 : Nat) : Int) * 2)))] ?_
  refine WLt (show (.int .i64 (IntKind.i64.wrap ((((b - a) / 4 : Nat) : Int) * 2)) : Value) = .int .i64 (((b - a) / 4 * 2 : Nat) : Int) from by rw [wrap_in_i64 _ (by omega) (by omega)] <;> first | rfl | (congr 1; done) | (congr 1; omega)) ?_
  refine WLq 1 [(31, .int .i64 (IntKind.i64.wrap ((a : Int) + (((b - a) / 4 * 2 : Nat) : Int))))] ?_
  refine WLt (show (.int .i64 (IntKind.i64.wrap ((a : Int) + (((b - a) / 4 * 2 : Nat) : Int))) : Value) = .int .i64 ((a + (b - a) / 4 * 2 : Nat) : Int) from by rw [wrap_in_i64 _ (by omega) (by omega)] <;> first | rfl | (congr 1; done) | (congr 1; omega)) ?_
  refine WLq 1 [(32, .int .i64 (IntKind.i64.wrap (((a + (b - a) / 4 * 2 : Nat) : Int) + 1)))] ?_
  refine WLt (show (.int .i64 (IntKind.i64.wrap (((a + (b - a) / 4 * 2 : Nat) : Int) + 1)) : Value) = .int .i64 ((a + (b - a) / 4 * 2 + 1 : Nat) : Int) from by rw [wrap_in_i64 _ (by omega) (by omega)] <;> first | rfl | (congr 1; done) | (congr 1; omega)) ?_
  refine WLq 1 [(33, .bool (decide ((i : Int) ≤ ((a + (b - a) / 4 * 2 + 1 : Nat) : Int))))] (WLd rfl (QXn (aJ _ _ ?_)))
  refine WCa 33 (decide ((i : Int) ≤ ((a + (b - a) / 4 * 2 + 1 : Nat) : Int))) rfl (fun af => ?_) (fun af => ?_)
  ·
   have a5 : (i : Int) ≤ ((a + (b - a) / 4 * 2 + 1 : Nat) : Int) := by have q_ := of_decide_eq_true af; omega
   refine WCt rfl ?_
   refine WC.skip ?_
   refine QXn (aI _ _ ?_)
   refine WCs (fun bi aK => ?_)
   refine WC.block ?_
   refine WCs (fun bj aL => ?_)
   refine WCg ?_
   refine WLc rfl rfl rfl rfl rfl (by kernel_rfl) (next_ct g8 y5 (by omega) a4 (ac.get 0 rfl)) ?_
   rintro _ bk ⟨y42, rfl, ao, aM, a6⟩
   have ap := ac.callM 0 rfl ao aM
   refine ⟨_, rfl, ?_⟩
   have aq := own_fr hrow ao (ac.apartM 0 0 rfl rfl)
   refine WLq 2 [(38, .int .u64 (IntKind.u64.wrap ((M2 : Int) - 1))), (37, .int .u64 (M2 : Int))] ?_
   refine WLt (show (.int .u64 (IntKind.u64.wrap ((M2 : Int) - 1)) : Value) = .int .u64 ((M2 - 1 : Nat) : Int) from by rw [wrap_in_u64 _ (by omega) (by omega)] <;> first | rfl | (congr 1; done) | (congr 1; omega)) ?_
   obtain ⟨z, hz, hz1⟩ := and_bd (y := (y42 : Int)) (m := ((M2 - 1 : Nat) : Int)) (by omega) (by omega) (by omega) (by omega)
   refine WLq 1 [(39, .int .u64 (Go.bits .and .u64 (y42 : Int) ((M2 - 1 : Nat) : Int)))] ?_
   refine WLt (show (.int .u64 (Go.bits .and .u64 (y42 : Int) ((M2 - 1 : Nat) : Int)) : Value) = .int .u64 (z : Int) from by rw [hz]) ?_
   refine WLq 1 [(40, .int .i64 (IntKind.i64.wrap ((z : Int))))] ?_
   refine WLt (show (.int .i64 (IntKind.i64.wrap ((z : Int))) : Value) = .int .i64 (z : Int) from by rw [wrap_in_i64 _ (by omega) (by omega)]) ?_
   refine WLq 1 [(10, .int .i64 (z : Int))] (WLd rfl (QXn (aL _ _ ?_)))
   refine WC.seqI (fun E_ w_ => ∃ (r : Nat), E_ = [(0, .slice A xs.length c), (1, .int .i64 (a : Int)), (2, .int .i64 (b : Int)), (6, .int .i64 ((b - a : Nat) : Int)), (7, .pointer (some ⟨g8, 0, none⟩)), (8, .int .u64 (M2 : Int)), (9, .int .i64 (i : Int)), (10, .int .i64 (r : Int))] ∧ Cx w (blk (.slice A xs.length c)) w_ [(g8, .cells #[.int .u64 (y42 : Int)] 136)] [blk (.slice A xs.length c)] ∧ World.ownsRow w_ 0 44 1 (.slice A xs.length c) xs.length (L.flatMap (Go.Tw.encI .u32)) ∧ (r < b - a)) (fun bl ar => ?_) ?_
   ·
    refine WCs (fun bm aN => ?_)
    refine WCg (WLq 3 [(43, .bool (decide ((z : Int) ≥ ((b - a : Nat) : Int)))), (42, .int .i64 ((b - a : Nat) : Int)), (41, .int .i64 (z : Int))] (WLd rfl (QXn (aN _ _ ?_))))
    refine WCa 43 (decide ((z : Int) ≥ ((b - a : Nat) : Int))) rfl (fun ag => ?_) (fun ag => ?_)
    ·
     have a7 : ((b - a : Nat) : Int) ≤ (z : Int) := by have q_ := of_decide_eq_true ag; omega
     refine WCt rfl ?_
     refine WCg (WLq 3 [(46, .int .i64 (IntKind.i64.wrap ((z : Int) - ((b - a : Nat) : Int)))), (45, .int .i64 ((b - a : Nat) : Int)), (44, .int .i64 (z : Int))] ?_)
     refine WLt (show (.int .i64 (IntKind.i64.wrap ((z : Int) - ((b - a : Nat) : Int))) : Value) = .int .i64 ((z - (b - a) : Nat) : Int) from by rw [wrap_in_i64 _ (by omega) (by omega)] <;> first | rfl | (congr 1; done) | (congr 1; omega)) ?_
     refine WLq 1 [(10, .int .i64 ((z - (b - a) : Nat) : Int))] ?_
     refine WLd rfl ?_
     refine QXn ?_
     have aO := ap.pickM [0] [0] (by decide) rfl rfl
     exact fun a_ ha_ => ar _ _ ⟨z - (b - a), rfl, aO, aq, by omega⟩ a_ (ha_.weaken (sub_of ⟨rfl, rfl, rfl, rfl, rfl, rfl, rfl, rfl, trivial⟩))
    ·
     have a7 : (z : Int) < ((b - a : Nat) : Int) := by have q_ := of_decide_eq_false ag; omega
     refine WCf rfl (WC.skip ?_)
     refine QXn ?_
     have aP := ap.pickM [0] [0] (by decide) rfl rfl
     exact fun a_ ha_ => ar _ _ ⟨z, rfl, aP, aq, by omega⟩ a_ (ha_.weaken (sub_of ⟨rfl, rfl, rfl, rfl, rfl, rfl, rfl, rfl, trivial⟩))
   rintro E_ bn ⟨r, rfl, aQ, row_m52, hr_⟩
   refine WC.drawC aQ (blk (.slice A xs.length c)) (by kernel_rfl) (fun bo aR aS aa => ?_)
   have ab := own_fr row_m52 aR (by simp)
   refine WDq (NPb (NPt (NPt (NPb hN)))) 0 47 (.slice A xs.length c) aa ?_
   refine WDq (NPb (NPt (NPt (NPb hN)))) 1 48 (.int .i64 (i : Int)) aa ?_
   refine WDq (NPb (NPt (NPt (NPb hN)))) 2 49 (.slice A xs.length c) aa ?_
   refine WDq (NPb (NPt (NPt (NPb hN)))) 3 50 (.int .i64 (a : Int)) aa ?_
   refine WDq (NPb (NPt (NPt (NPb hN)))) 4 51 (.int .i64 (r : Int)) aa ?_
   refine WDq (NPb (NPt (NPt (NPb hN)))) 5 52 (.int .i64 (IntKind.i64.wrap ((a : Int) + (r : Int)))) aa ?_
   refine WD.recast (show (.int .i64 (IntKind.i64.wrap ((a : Int) + (r : Int))) : Value) = .int .i64 ((a + r : Nat) : Int) from by rw [wrap_in_i64 _ (by omega) (by omega)] <;> first | rfl | (congr 1; done) | (congr 1; omega)) ?_
   refine WDq (NPb (NPt (NPt (NPb hN)))) 6 53 (.slice A xs.length c) aa ?_
   refine WDq (NPb (NPt (NPt (NPb hN)))) 7 54 (.int .i64 (a : Int)) aa ?_
   refine WDq (NPb (NPt (NPt (NPb hN)))) 8 55 (.int .i64 (r : Int)) aa ?_
   refine WDq (NPb (NPt (NPt (NPb hN)))) 9 56 (.int .i64 (IntKind.i64.wrap ((a : Int) + (r : Int)))) aa ?_
   refine WD.recast (show (.int .i64 (IntKind.i64.wrap ((a : Int) + (r : Int))) : Value) = .int .i64 ((a + r : Nat) : Int) from by rw [wrap_in_i64 _ (by omega) (by omega)] <;> first | rfl | (congr 1; done) | (congr 1; omega)) ?_
   have a8 := own_count (Go.Tw.encI_len _) (by decide) ab
   obtain ⟨ah, ai⟩ := get_some (xs := L) (i := (a + r)) (by omega)
   obtain ⟨b67, au⟩ := own_addr (by decide) (Go.Tw.encI_len _) ab ai
   refine WDi (NPb (NPt (NPt (NPb hN)))) 10 A xs.length c 57 .i64 ((a + r : Nat) : Int) b67 0 (a + r) 1 (by kernel_rfl) (by kernel_rfl) au (by omega) (by omega) (a + r) (by first | (simp; done) | omega) aa ?_
   refine WDq (NPb (NPt (NPt (NPb hN)))) 12 59 (.slice A xs.length c) aa ?_
   refine WDq (NPb (NPt (NPt (NPb hN)))) 13 60 (.int .i64 (i : Int)) aa ?_
   have a9 := own_count (Go.Tw.encI_len _) (by decide) ab
   obtain ⟨aj, ad⟩ := get_some (xs := L) (i := i) (by omega)
   obtain ⟨b72, ae⟩ := own_addr (by decide) (Go.Tw.encI_len _) ab ad
   refine WDi (NPb (NPt (NPt (NPb hN)))) 14 A xs.length c 61 .i64 (i : Int) b72 0 i 1 (by kernel_rfl) (by kernel_rfl) ae (by omega) (by omega) i (by first | (simp; done) | omega) aa ?_
   refine two_loads 11 15 (Instr.loadAt 44 (.pointer (some ⟨b67, (a + r), none⟩))) (Instr.loadAt 44 (.pointer (some ⟨b72, i, none⟩))) 58 62 (.int .u32 ah) (.int .u32 aj) (by kernel_rfl) (by kernel_rfl) (by kernel_rfl) (run_load1 rfl (by simpa [Nat.add_assoc] using Rd.cell (own_rd ab (Go.Tw.encI_len _) (by decide)) au ai 0 _ rfl)) (run_load1 rfl (by simpa [Nat.add_assoc] using Rd.cell (own_rd ab (Go.Tw.encI_len _) (by decide)) ae ad 0 _ rfl)) aa (by kernel_rfl) (by kernel_rfl) (by kernel_rfl) (by kernel_rfl) (by decide) (by kernel_rfl) ?_
   refine WDi (NPb (NPt (NPt (NPb hN)))) 16 A xs.length c 63 .i64 (i : Int) b72 0 i 1 (by kernel_rfl) (by kernel_rfl) ae (by omega) (by omega) i (by first | (simp; done) | omega) aa ?_
   obtain ⟨bp, aT, aU, ak, aV⟩ := stoE_run Try.prog (Go.Tw.encI_len _) aS 0 ae rfl ab i 0 (x := aj) ad ah [.int .u32 ah] rfl 44 (.int .u32 ah) (i) rfl rfl rfl (by first | rfl | simp [Nat.add_assoc])
   have al := aa.trans aU (fun x_ hx_ => .inl hx_)
   refine WD.semU 17 (Instr.storeAt 44 (.pointer (some ⟨b72, i, none⟩)) (.int .u32 ah)) (by kernel_rfl) (by kernel_rfl) aT al ?_
   have ba := own_count (Go.Tw.encI_len _) (by decide) ak
   obtain ⟨bb, av⟩ := get_some (xs := L.set i ah) (i := (a + r)) (by omega)
   obtain ⟨b87, aw⟩ := own_addr (by decide) (Go.Tw.encI_len _) ak av
   refine WDi (NPb (NPt (NPt (NPb hN)))) 18 A xs.length c 64 .i64 ((a + r : Nat) : Int) b87 0 (a + r) 1 (by kernel_rfl) (by kernel_rfl) aw (by omega) (by omega) (a + r) (by first | (simp; done) | omega) al ?_
   obtain ⟨bq, aW, aX, aY, aZ⟩ := stoE_run Try.prog (Go.Tw.encI_len _) aV 0 aw rfl ak (a + r) 0 (x := bb) av aj [.int .u32 aj] rfl 44 (.int .u32 aj) ((a + r)) rfl rfl rfl (by first | rfl | simp [Nat.add_assoc])
   have a0 := al.trans aX (fun x_ hx_ => .inl hx_)
   refine WD.semU 19 (Instr.storeAt 44 (.pointer (some ⟨b87, (a + r), none⟩)) (.int .u32 aj)) (by kernel_rfl) (by kernel_rfl) aW a0 ?_
   refine WD.done (by kernel_rfl) ?_
   refine QXb ?_
   refine QXn (aK _ _ ?_)
   refine WCg (WLq 2 [(35, .int .i64 (IntKind.i64.wrap ((i : Int) + 1))), (34, .int .i64 (i : Int))] ?_)
   refine WLt (show (.int .i64 (IntKind.i64.wrap ((i : Int) + 1)) : Value) = .int .i64 ((i + 1 : Nat) : Int) from by rw [wrap_in_i64 _ (by omega) (by omega)] <;> first | rfl | (congr 1; done) | (congr 1; omega)) ?_
   refine WLq 1 [(9, .int .i64 ((i + 1 : Nat) : Int))] ?_
   refine WLd rfl ?_
   refine QXn ?_
   have a1 := aZ.pick [0] [0] rfl rfl
   refine fun a_ ha_ => aG _ _ _ ?_ ⟨i + 1, (L.set i ah).set (a + r) aj, y42, rfl, rfl, a1, aY, by omega, ⟨by omega, by omega⟩, (set2_len _ _ _ _ _).trans hL, perm_swp hpm ad ai (by omega) (by omega) (by omega) (by omega) (by omega)⟩ a_ (ha_.weaken (sub_of ⟨rfl, rfl, rfl, rfl, rfl, rfl, rfl, trivial⟩))
   omega
  ·
   have a5 : ((a + (b - a) / 4 * 2 + 1 : Nat) : Int) < (i : Int) := by have q_ := of_decide_eq_false af; omega
   refine WCf rfl ?_
   refine WC.exit ?_
   refine QXe ?_
   refine QXe ?_
   refine QX.block_hit ?_
   refine (hret _ _ _ rfl ?_).2
   exact ⟨L, rfl, ac.fr, hrow, hpm⟩
 ·
  have t5 : ((b - a : Nat) : Int) < 8 := by have q_ := of_decide_eq_false t5b; omega
  refine WCf rfl (WC.skip ?_)
  refine (hret _ _ _ rfl ?_).2
  exact ⟨xs, rfl, hC.fr, hown, permIn_refl _ _ _⟩

theorem brk_n (A : Option Addr) (c n : Nat) (xs : List Int) (hn : xs.length = n) (a b : Nat) (w : World) (hown : w.ownsRow 0 44 1 (.slice A n c) n (xs.flatMap (Go.Tw.encI .u32))) (hlen : n ≤ 1099511627776) (hab : a < b) (hb : b ≤ n) : Calls Try.prog 72 #[.slice A n c, .int .i64 (a : Int), .int .i64 (b : Int)] w fun e w' => ∃ ys : List Int, e = .returned (.tuple #[]) ∧ Fr w w' (blk (.slice A n c)) ∧ w'.ownsRow 0 44 1 (.slice A n c) n (ys.flatMap (Go.Tw.encI .u32)) ∧ PermIn a b (aOf xs) (aOf ys) := by subst hn; exact brk_ct A c xs a b w hown hlen hab hb
end Go.Proofs.Ytmahghppojbeoaa
