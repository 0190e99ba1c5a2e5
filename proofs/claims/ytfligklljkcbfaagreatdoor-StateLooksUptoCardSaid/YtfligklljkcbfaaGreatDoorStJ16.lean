/- Contracts of functions of the program, each proved by a walk through its code; conditions stand in the statements. -/
import Derived.Test.YtfligklljkcbfaaGreatDoorStI16
namespace Go.Proofs.YtfligklljkcbfaaGreatDoor
set_option linter.unusedSimpArgs false
set_option linter.unusedVariables false
set_option linter.unusedSectionVars false
open Go Go.RowKit Go.Tw
set_option linter.unusedVariables false
set_option maxRecDepth 20000
def blkN (x : Lease) : Nat := ((x.first - 1024) / 8).toNat
def lentAt (vip now : Int) (n : Nat) (x : Lease) : Bool := decide (x.vip = vip) && livesB x now && decide (blkN x = n)
def lentB (xs : List Lease) (vip now : Int) (n : Nat) : Bool := xs.any (lentAt vip now n)
def freeN (xs : List Lease) (vip now : Int) : Option Nat := (List.range 8064).find? (fun n => !lentB xs vip now n)
def freeF (xs : List Lease) (vip now : Int) : Int := match freeN xs vip now with | some n => 1024 + 8 * (n : Int) | none => 0
theorem good_first {x : Lease} (h : lgoodL x = true) : 1024 ≤ x.first ∧ x.first ≤ 65528 ∧ (x.first - 1024) % 8 = 0 ∧ x.first = 1024 + 8 * (blkN x : Int) ∧ blkN x < 8064 := by
  simp only [lgoodL, goodBlock, Bool.and_eq_true, decide_eq_true_eq] at h
  obtain ⟨⟨⟨⟨_, _⟩, h⟩, _⟩, _⟩ := h
  unfold blkN; omega
def bitsInv (xs : List Lease) (vip now : Int) (L : List Int) : Prop := L.length = 126 ∧ ∀ j m, L[j]? = some m → 0 ≤ m ∧ m ≤ 18446744073709551615 ∧ ∀ b, b < 64 → (BitVec.ofInt 64 m).getLsbD b = lentB xs vip now (64 * j + b)
theorem bits_init (vip now : Int) : bitsInv [] vip now (List.replicate 126 0) := by
  refine ⟨by simp, fun j m hm => ?_⟩
  rw [List.getElem?_replicate] at hm
  split at hm
  · cases hm
    refine ⟨by decide, by decide, fun b hb => ?_⟩
    simp [lentB]
  · cases hm
theorem lent_snoc {xs : List Lease} {k : Nat} {x : Lease} (h : xs[k]? = some x) (vip now : Int) (n : Nat) : lentB (xs.take (k + 1)) vip now n = (lentB (xs.take k) vip now n || lentAt vip now n x) := by
  obtain ⟨hk, rfl⟩ := List.getElem?_eq_some_iff.1 h
  simp only [lentB]
  rw [List.take_succ_eq_append_getElem hk, List.any_append]
  simp
theorem bits_skip {xs : List Lease} {k : Nat} {x : Lease} {vip now : Int} {L : List Int} (h : xs[k]? = some x) (hb : bitsInv (xs.take k) vip now L) (hx : (decide (x.vip = vip) && livesB x now) = false) : bitsInv (xs.take (k + 1)) vip now L := by
  refine ⟨hb.1, fun j m hm => ?_⟩
  obtain ⟨h1, h2, h3⟩ := hb.2 j m hm
  refine ⟨h1, h2, fun b hb => ?_⟩
  rw [h3 b hb, lent_snoc h, lentAt, hx]
  simp
theorem or_pow (m : Int) (b : Nat) (h0 : 0 ≤ m) (h1 : m ≤ 18446744073709551615) (hb : b < 64) : 0 ≤ Go.bits .or .u64 m (2 ^ b) ∧ Go.bits .or .u64 m (2 ^ b) ≤ 18446744073709551615 ∧ ∀ i, i < 64 → (BitVec.ofInt 64 (Go.bits .or .u64 m (2 ^ b))).getLsbD i = ((BitVec.ofInt 64 m).getLsbD i || decide (i = b)) := by
  have e1 : Go.bits .or .u64 m (2 ^ b) = ((BitVec.ofInt 64 m ||| BitVec.twoPow 64 b).toNat : Int) := by
    show IntKind.u64.wrap ((BitVec.ofInt 64 m ||| BitVec.ofInt 64 (2 ^ b)).toNat : Int) = _
    have e2 : BitVec.ofInt 64 (2 ^ b) = BitVec.twoPow 64 b := by
      apply BitVec.eq_of_toNat_eq
      rw [BitVec.toNat_twoPow, BitVec.toNat_ofInt]
      have : ((2 : Int) ^ b) = ((2 ^ b : Nat) : Int) := by simp
      rw [this]
      omega
    rw [e2, wrap_in_u64 _ (by omega) (by have := (BitVec.ofInt 64 m ||| BitVec.twoPow 64 b).isLt; omega)]
  have hlt := (BitVec.ofInt 64 m ||| BitVec.twoPow 64 b).isLt
  refine ⟨by omega, by omega, fun i hi => ?_⟩
  rw [e1, BitVec.ofInt_natCast, BitVec.ofNat_toNat, BitVec.setWidth_eq, BitVec.getLsbD_or, BitVec.getLsbD_twoPow]
  simp [hi, hb, eq_comm]
theorem bits_set {xs : List Lease} {k : Nat} {x : Lease} {vip now : Int} {L : List Int} {m : Int} (h : xs[k]? = some x) (hb : bitsInv (xs.take k) vip now L) (hv : x.vip = vip) (hl : livesB x now = true) (hm : L[blkN x / 64]? = some m) : bitsInv (xs.take (k + 1)) vip now (L.set (blkN x / 64) (Go.bits .or .u64 m (2 ^ (blkN x % 64)))) := by
  refine ⟨by rw [List.length_set]; exact hb.1, fun j m' hm' => ?_⟩
  have hlt : blkN x / 64 < L.length := (List.getElem?_eq_some_iff.1 hm).1
  by_cases e : j = blkN x / 64
  · subst e
    rw [List.getElem?_set_self hlt] at hm'
    cases hm'
    obtain ⟨h1, h2, h3⟩ := hb.2 _ m hm
    obtain ⟨g1, g2, g3⟩ := or_pow m (blkN x % 64) h1 h2 (by omega)
    refine ⟨g1, g2, fun b hb' => ?_⟩
    rw [g3 b hb', h3 b hb', lent_snoc h]
    congr 1
    simp only [lentAt, hv, hl]
    simp
    omega
  · rw [List.getElem?_set_ne (Ne.symm e)] at hm'
    obtain ⟨h1, h2, h3⟩ := hb.2 j m' hm'
    refine ⟨h1, h2, fun b hb' => ?_⟩
    rw [h3 b hb', lent_snoc h]
    simp only [lentAt, hv, hl]
    have : ¬ blkN x = 64 * j + b := by omega
    simp [this]
theorem not_bits (m : Int) (h0 : 0 ≤ m) (h1 : m ≤ 18446744073709551615) : 0 ≤ Go.bits .xor .u64 18446744073709551615 m ∧ Go.bits .xor .u64 18446744073709551615 m ≤ 18446744073709551615 ∧ BitVec.ofInt 64 (Go.bits .xor .u64 18446744073709551615 m) = ~~~ (BitVec.ofInt 64 m) := by
  have e1 : Go.bits .xor .u64 18446744073709551615 m = ((~~~ (BitVec.ofInt 64 m)).toNat : Int) := by
    show IntKind.u64.wrap ((BitVec.ofInt 64 18446744073709551615 ^^^ BitVec.ofInt 64 m).toNat : Int) = _
    have e2 : BitVec.ofInt 64 18446744073709551615 = BitVec.allOnes 64 := by decide
    rw [e2, BitVec.allOnes_xor, wrap_in_u64 _ (by omega) (by have := (~~~ (BitVec.ofInt 64 m)).isLt; omega)]
  have hlt := (~~~ (BitVec.ofInt 64 m)).isLt
  refine ⟨by omega, by omega, ?_⟩
  rw [e1, BitVec.ofInt_natCast, BitVec.ofNat_toNat, BitVec.setWidth_eq]
theorem free_hit {xs : List Lease} {vip now : Int} {L : List Int} {m : Int} {j : Nat} (hb : bitsInv xs vip now L) (hm : L[j]? = some m) (hlow : ∀ n, n < 64 * j → lentB xs vip now n = true) (hne : ¬ m = 18446744073709551615) : freeN xs vip now = some (64 * j + tz (~~~ (BitVec.ofInt 64 m))) ∧ tz (~~~ (BitVec.ofInt 64 m)) < 64 := by
  have hj : j < 126 := by have := (List.getElem?_eq_some_iff.1 hm).1; have := hb.1; omega
  obtain ⟨h1, h2, h3⟩ := hb.2 j m hm
  have hx : ~~~ (BitVec.ofInt 64 m) ≠ 0 := fun h => hne (by
    have h4 : BitVec.ofInt 64 m = ~~~ (0 : BitVec 64) := by rw [← h, BitVec.not_not]
    have h5 : (BitVec.ofInt 64 m).toNat = 18446744073709551615 := by rw [h4]; decide
    rw [BitVec.toNat_ofInt] at h5
    omega)
  obtain ⟨g1, g2, g3⟩ := tz_spec hx
  refine ⟨?_, g1⟩
  unfold freeN
  rw [List.find?_range_eq_some]
  have key : ∀ b, b < 64 → lentB xs vip now (64 * j + b) = !((~~~ (BitVec.ofInt 64 m)).getLsbD b) := fun b hb' => by
    rw [← h3 b hb', BitVec.getLsbD_not]; simp [hb']
  refine ⟨?_, by simp; omega, fun n hn => ?_⟩
  · rw [key _ g1, g2]; rfl
  · by_cases hl : n < 64 * j
    · simp [hlow n hl]
    · have e : n = 64 * j + (n - 64 * j) := by omega
      rw [e, key _ (by omega), g3 _ (by omega)]; rfl
theorem free_next {xs : List Lease} {vip now : Int} {L : List Int} {j : Nat} (hb : bitsInv xs vip now L) (hm : L[j]? = some 18446744073709551615) (hlow : ∀ n, n < 64 * j → lentB xs vip now n = true) : ∀ n, n < 64 * (j + 1) → lentB xs vip now n = true := by
  intro n hn
  by_cases hl : n < 64 * j
  · exact hlow n hl
  · obtain ⟨h1, h2, h3⟩ := hb.2 j _ hm
    have e : n = 64 * j + (n - 64 * j) := by omega
    rw [e, ← h3 _ (by omega)]
    have e2 : BitVec.ofInt 64 18446744073709551615 = BitVec.allOnes 64 := by decide
    rw [e2, BitVec.getLsbD_allOnes]
    simp; omega
theorem free_none {xs : List Lease} {vip now : Int} (hlow : ∀ n, n < 64 * 126 → lentB xs vip now n = true) : freeN xs vip now = none := by
  unfold freeN
  rw [List.find?_eq_none]
  intro n hn
  simp at hn
  simp [hlow n (by omega)]
theorem ret_free {xs : List Lease} {vip now v : Int} {n : Nat} (h : freeN xs vip now = some n) (hv : v = 1024 + 8 * (n : Int)) : shut [.int .i64 v, .bool true] = .tuple #[.int .i64 (freeF xs vip now), .bool (freeN xs vip now).isSome] := by
  subst hv
  unfold freeF
  rw [h]; rfl
theorem ret_free0 {xs : List Lease} {vip now : Int} (h : freeN xs vip now = none) : shut [.int .i64 0, .bool false] = .tuple #[.int .i64 (freeF xs vip now), .bool (freeN xs vip now).isSome] := by
  unfold freeF
  rw [h]; rfl
theorem pow_le_u64 {b : Nat} (hb : b < 64) : (2 : Int) ^ b ≤ 18446744073709551615 := by
  have h : (2 ^ b : Nat) ≤ 2 ^ 63 := Nat.pow_le_pow_right (by decide) (by omega)
  have : ((2 : Int) ^ b) = ((2 ^ b : Nat) : Int) := by simp
  omega
theorem free_ct (A : Option Addr) (c : Nat) (xs : List Lease) (vip now : Int) (w : World) (hr : Rd w 4 encL A xs) (hgood : ∀ x ∈ xs, lgoodL x = true) (hm : xs.length < 2 ^ 40) (hg : Rd w 1 (encI .u8) (some ⟨0, 0, none⟩) dbTab) : Calls Tryz.prog 128 #[.slice A xs.length c, U4 vip, I6 now] w fun e w' => e = .returned (.tuple #[I6 (freeF xs vip now), .bool (freeN xs vip now).isSome]) ∧ Fr w w' [] := by
 refine enterD (n := 65) Tryz.func128 rfl rfl (Nat.le_of_ble_eq_true rfl) ?_
 intro Q0 hN hret hret'
 have hC := Cx.start w
 refine WCs (fun K1 hK2 => WCg (WLq 2 [(7, .bool false), (6, I6 0)] (WLd rfl (QXn (hK2 _ _ (WCs (fun K3 hK4 => WCg (WLb hC (.cells ((List.replicate 126 0).flatMap (Go.Tw.encI .u64)).toArray 194 (0, 0)) 8 (fun g5 w6 hb9 hF7 hC8 => WLd rfl (QXn (hK4 _ _ ?_)))))))))))
 refine WCs (fun bh aA => WCs (fun bi aB => WCg (WLq 3 [(17, I6 0), (16, I6 (xs.length : Int)), (15, .slice A xs.length c)] (WLd rfl (QXn (aB _ _ (WC.block (WC.loop (fun m_ E_ w_ => ∃ (k : Nat) (L : List Int), m_ = xs.length - k ∧ E_ = [(0, .slice A xs.length c), (1, U4 vip), (2, I6 now), (6, I6 0), (7, .bool false), (8, P0 g5 0), (15, .slice A xs.length c), (16, I6 (xs.length : Int)), (17, I6 (k : Int))] ∧ Cx w [] w_ [(g5, .cells (L.flatMap (Go.Tw.encI .u64)).toArray 194 (0, 0))] [] ∧ (k ≤ xs.length ∧ bitsInv (xs.take k) vip now L)) ⟨_, _, ⟨0, _, rfl, rfl, hC8, Nat.zero_le _, bits_init vip now⟩, sub_of ⟨rfl, rfl, rfl, rfl, rfl, rfl, rfl, rfl, rfl, trivial⟩⟩ (fun m17 E_ bj bk aj aC => ?_)))))))))
 obtain ⟨k, L, rfl, rfl, ae, hk, hbits⟩ := aC
 have az := hbits.1
 refine WCs (fun bl aD => WCg (WLq 1 [(18, .bool (decide ((k : Int) < (xs.length : Int))))] (WLd rfl (QXn (aD _ _ (WCs (fun bm aE => WCa 18 (decide ((k : Int) < (xs.length : Int))) rfl (fun ak => ?_) (fun ak => ?_))))))))
 ·
  have a6 : (k : Int) < (xs.length : Int) := by have q_ := of_decide_eq_true ak; omega
  refine WCt rfl (WC.skip (QXn (aE _ _ (WCs (fun bn al => WC.block (WCs (fun bo aF => ?_)))))))
  refine WCg ?_
  obtain ⟨aa, ad⟩ := get_some (xs := xs) (i := k) (by omega)
  obtain ⟨b31, o33, aG, aH⟩ := hr.at_ _ _ ad
  obtain ⟨hg1_, hg2_, hg3_, hg4_, hg5_⟩ := good_first (hgood _ (List.mem_of_getElem? ad))
  refine WLi A xs.length c 19 .i64 (k : Int) b31 o33 k 4 (by kernel_rfl) aG (by omega) (by omega) (o33 + k * 4) (by first | (simp; done) | omega) (WLo 50 (P0 b31 (o33 + k * 4)) (.agg #[U4 aa.vip, I6 aa.first, U4 aa.dip, I6 aa.exp]) 20 (run_rdN (l := [U4 aa.vip, I6 aa.first, U4 aa.dip, I6 aa.exp]) rfl rfl (fun j u hu => by have hq_ := ae.fr.cell (aH j u hu) (by simp); simpa [Nat.add_assoc] using hq_)) (WLb ae (.cells #[U4 0, I6 0, U4 0, I6 0] 50) 10 (fun ar bp a7 a8 aI => WLv (c' := #[U4 aa.vip, I6 aa.first, U4 aa.dip, I6 aa.exp]) aI 1 50 ar 0 (.agg #[U4 aa.vip, I6 aa.first, U4 aa.dip, I6 aa.exp]) (fun a9 ba af => WLd rfl (QXn (aF _ _ (WCs (fun bq au => ?_))))))))
  refine WCg (WLq 1 [(21, P0 ar 0)] (WLo 40 (P0 ar 0) (U4 aa.vip) 22 (run_ld (af.get 1 rfl) rfl) (WLz 3 [(25, .bool (aa.vip == vip))] (WLa 25 (aa.vip == vip) rfl (fun am => ?_) (fun am => ?_)))))
  ·
   have bb : aa.vip = vip := by simpa using am
   refine WLo 50 (P0 ar 0) (.agg #[U4 aa.vip, I6 aa.first, U4 aa.dip, I6 aa.exp]) 26 (run_ld (af.get 1 rfl) rfl) (WLq 1 [(27, I6 now)] (WLk (lives_ct aa now a9) ?_))
   rintro _ br ⟨rfl, aJ⟩
   refine ⟨_, rfl, ?_⟩
   have an := af.call aJ
   refine WLq 1 [(29, .bool (livesB aa now))] (WLd rfl (QXn (au _ _ (WCa 29 (livesB aa now) rfl (fun aK => ?_) (fun aK => ?_)))))
   ·
    refine WCt rfl (WCs (fun bs aL => WCg (WLq 1 [(30, P0 ar 1)] (WLo 3 (P0 ar 1) (I6 aa.first) 31 (run_ld (an.get 1 rfl) rfl) (WLq 1 [(32, I6 (IntKind.i64.wrap (aa.first - 1024)))] (WLt (show (I6 (IntKind.i64.wrap (aa.first - 1024)) : Value) = I6 (aa.first - 1024) from by rw [wrap_in_i64 (aa.first - 1024) (by omega) (by omega)]) ?_))))))
    refine WLq 1 [(33, I6 (IntKind.i64.wrap (Int.tdiv (aa.first - 1024) 8)))] (WLt (show (I6 (IntKind.i64.wrap (Int.tdiv (aa.first - 1024) 8)) : Value) = I6 (blkN aa : Int) from by rw [Int.tdiv_eq_ediv_of_nonneg (by omega), wrap_in_i64 _ (by omega) (by omega)]; congr 1; omega) (WLq 1 [(11, I6 (blkN aa : Int))] (WLd rfl (QXn (aL _ _ (WC.drawC an [g5] (by kernel_rfl) (fun bt bc av ac => WDx 2 [(0, 34, I6 (blkN aa : Int)), (1, 35, I6 (IntKind.i64.wrap (Int.tdiv (blkN aa : Int) 64)))] ac (WD.recast (show (I6 (IntKind.i64.wrap (Int.tdiv (blkN aa : Int) 64)) : Value) = I6 ((blkN aa / 64 : Nat) : Int) from by rw [Int.tdiv_eq_ediv_of_nonneg (by omega), wrap_in_i64 _ (by omega) (by omega)]; congr 1) ?_))))))))
    obtain ⟨ai, ao⟩ := get_some (xs := L) (i := (blkN aa / 64)) (by omega)
    refine WD.indexP (NPb (NPt (NPt (NPb (NPt hN))))) 2 194 126 154 1 g5 0 (blkN aa / 64) .i64 ((blkN aa / 64 : Nat) : Int) 36 (by kernel_rfl) (by kernel_rfl) (by kernel_rfl) (by omega) (by omega) (blkN aa / 64) (by first | (simp; done) | omega) ac (WDx 2 [(4, 38, I6 (blkN aa : Int)), (5, 39, I6 (Int.tmod (blkN aa : Int) 64))] ac (WD.recast (show (I6 (Int.tmod (blkN aa : Int) 64) : Value) = I6 ((blkN aa % 64 : Nat) : Int) from by rw [Int.tmod_eq_emod_of_nonneg (by omega)]; congr 1) ?_))
    have aM : ∀ w_, Sem.run Tryz.prog (do eqGuard .shl 154 (Operand.const (.int .u64 1)) (Operand.tmp 39) (.int .u64 1) (I6 ((blkN aa % 64 : Nat) : Int)); binOp .shl 154 (.int .u64 1) (I6 ((blkN aa % 64 : Nat) : Int))) w_ = .ok (.int .u64 (IntKind.u64.wrap (1 * 2 ^ (blkN aa % 64)))) w_ := fun w_ => (run_shl (b := (blkN aa % 64)) (by omega) (by show (blkN aa % 64) ≤ 64; omega))
    refine WD.semP (NPb (NPt (NPt (NPb (NPt hN))))) 6 (do eqGuard .shl 154 (Operand.const (.int .u64 1)) (Operand.tmp 39) (.int .u64 1) (I6 ((blkN aa % 64 : Nat) : Int)); binOp .shl 154 (.int .u64 1) (I6 ((blkN aa % 64 : Nat) : Int))) 40 (.int .u64 (IntKind.u64.wrap (1 * 2 ^ (blkN aa % 64)))) (by kernel_rfl) (by kernel_rfl) (fun _ _ => aM _) ac (WD.recast (show (.int .u64 (IntKind.u64.wrap (1 * 2 ^ (blkN aa % 64))) : Value) = .int .u64 ((2 : Int) ^ (blkN aa % 64)) from by rw [Int.one_mul, wrap_in_u64 _ (Int.pow_nonneg (by decide)) (pow_le_u64 (by omega))]) (WD.sem 3 (Instr.loadAt 154 (P0 g5 (blkN aa / 64))) 37 (.int .u64 ai) (by kernel_rfl) (by kernel_rfl) (run_load1 rfl (by simpa [Nat.add_assoc] using Rd.cell (Rd.blk (av.get 0 rfl) (Go.Tw.encI_len _) rfl) rfl ao 0 _ rfl)) ac (WDq 7 41 (.int .u64 (Go.bits .or .u64 ai ((2 : Int) ^ (blkN aa % 64)))) ac (WD.indexP (NPb (NPt (NPt (NPb (NPt hN))))) 8 194 126 154 1 g5 0 (blkN aa / 64) .i64 ((blkN aa / 64 : Nat) : Int) 42 (by kernel_rfl) (by kernel_rfl) (by kernel_rfl) (by omega) (by omega) (blkN aa / 64) (by first | (simp; done) | omega) ac ?_))))
    obtain ⟨bu, aN, aO, aP⟩ := stoML_run Tryz.prog (Go.Tw.encI_len _) av 0 rfl (blkN aa / 64) 0 (x := ai) ao (Go.bits .or .u64 ai ((2 : Int) ^ (blkN aa % 64))) [.int .u64 (Go.bits .or .u64 ai ((2 : Int) ^ (blkN aa % 64)))] rfl 154 (.int .u64 (Go.bits .or .u64 ai ((2 : Int) ^ (blkN aa % 64)))) ((blkN aa / 64)) rfl rfl rfl (by first | rfl | simp [Nat.add_assoc])
    have aQ := ac.trans aO (by first | (simp; done) | (simp [*]; done) | (have q_ := ac.size; simp; omega))
    refine WDu 9 aN aQ (WDd (QXb (QXn (al _ _ (WCg (WLq 1 [(43, I6 (IntKind.i64.wrap ((k : Int) + 1)))] (WLt (show (I6 (IntKind.i64.wrap ((k : Int) + 1)) : Value) = I6 ((k : Int) + 1) from by rw [wrap_in_i64 ((k : Int) + 1) (by omega) (by omega)]) ?_)))))))
    refine WLq 1 [(17, I6 ((k : Int) + 1))] (WLd rfl (QXn ?_))
    have aR := aP.pick [0] [] rfl rfl
    refine fun a_ ha_ => aj _ _ _ ?_ ⟨k + 1, (L.set (blkN aa / 64) (Go.bits .or .u64 ai ((2 : Int) ^ (blkN aa % 64)))), rfl, rfl, aR, by omega, bits_set ad hbits (by assumption) (by assumption) ao⟩ a_ (ha_.weaken (sub_of ⟨rfl, rfl, rfl, rfl, rfl, rfl, rfl, rfl, rfl, trivial⟩))
    omega
   ·
    refine WCf rfl (WC.skip (QXb (QXn (al _ _ (WCg (WLq 1 [(43, I6 (IntKind.i64.wrap ((k : Int) + 1)))] (WLt (show (I6 (IntKind.i64.wrap ((k : Int) + 1)) : Value) = I6 ((k : Int) + 1) from by rw [wrap_in_i64 ((k : Int) + 1) (by omega) (by omega)]) (WLq 1 [(17, I6 ((k : Int) + 1))] ?_))))))))
    refine WLd rfl (QXn ?_)
    have aS := an.pick [0] [] rfl rfl
    refine fun a_ ha_ => aj _ _ _ ?_ ⟨k + 1, L, rfl, rfl, aS, by omega, bits_skip ad hbits (by simp [*])⟩ a_ (ha_.weaken (sub_of ⟨rfl, rfl, rfl, rfl, rfl, rfl, rfl, rfl, rfl, trivial⟩))
    omega
  ·
   have bb : ¬ (aa.vip = vip) := by simpa using am
   refine WLz 4 [(29, .bool false)] (WLd rfl (QXn (au _ _ (WCf rfl (WC.skip (QXb (QXn (al _ _ (WCg (WLq 1 [(43, I6 (IntKind.i64.wrap ((k : Int) + 1)))] (WLt (show (I6 (IntKind.i64.wrap ((k : Int) + 1)) : Value) = I6 ((k : Int) + 1) from by rw [wrap_in_i64 ((k : Int) + 1) (by omega) (by omega)]) ?_)))))))))))
   refine WLq 1 [(17, I6 ((k : Int) + 1))] (WLd rfl (QXn ?_))
   have aT := af.pick [0] [] rfl rfl
   refine fun a_ ha_ => aj _ _ _ ?_ ⟨k + 1, L, rfl, rfl, aT, by omega, bits_skip ad hbits (by simp [*])⟩ a_ (ha_.weaken (sub_of ⟨rfl, rfl, rfl, rfl, rfl, rfl, rfl, rfl, rfl, trivial⟩))
   omega
 ·
  have a6 : (xs.length : Int) ≤ (k : Int) := by have q_ := of_decide_eq_false ak; omega
  refine WCf rfl (WC.exit (QXe (QXe (QX.block_hit (QXn (aA _ _ ?_))))))
  refine WCs (fun bv aU => WCs (fun bw aV => WCg (WLo 194 (P0 g5 0) (.agg (L.flatMap (Go.Tw.encI .u64)).toArray) 44 (run_ldL (ae.get 0 rfl) rfl ((flat_len (Go.Tw.encI_len _) _).trans (by show _ = 126; omega)).symm) (WLq 1 [(45, I6 0)] (WLd rfl (QXn (aV _ _ (WC.block ?_))))))))
  have hbits2 : bitsInv xs vip now L := by
   have hk2 : xs.take k = xs := List.take_of_length_le (by omega)
   rw [hk2] at hbits
   exact hbits
  refine WC.loop (fun m_ E_ w_ => ∃ (j : Nat), m_ = 126 - j ∧ E_ = [(0, .slice A xs.length c), (1, U4 vip), (2, I6 now), (8, P0 g5 0), (15, .slice A xs.length c), (16, I6 (xs.length : Int)), (17, I6 (k : Int)), (18, .bool false), (44, .agg (L.flatMap (Go.Tw.encI .u64)).toArray), (45, I6 (j : Int))] ∧ Cx w [] w_ [(g5, .cells (L.flatMap (Go.Tw.encI .u64)).toArray 194 (0, 0))] [] ∧ (j ≤ 126 ∧ ∀ n, n < 64 * j → lentB xs vip now n = true)) ⟨_, _, ⟨0, rfl, rfl, ae, Nat.zero_le _, fun n hn => by omega⟩, sub_of ⟨rfl, rfl, rfl, rfl, rfl, rfl, rfl, rfl, rfl, rfl, trivial⟩⟩ (fun m75 E_ bd bx aW aX => ?_)
  obtain ⟨j, rfl, rfl, ap, hj, hlow⟩ := aX
  refine WCs (fun bz aY => WCg (WLq 1 [(46, .bool (decide ((j : Int) < 126)))] (WLd rfl (QXn (aY _ _ (WCs (fun bA aZ => WCa 46 (decide ((j : Int) < 126)) rfl (fun aq => ?_) (fun aq => ?_))))))))
  ·
   have be : (j : Int) < 126 := by have q_ := of_decide_eq_true aq; omega
   refine WCt rfl (WC.skip (QXn (aZ _ _ (WCs (fun bB a0 => WC.block (WCs (fun bC a1 => ?_)))))))
   refine WCg (WLq 1 [(47, I6 (j : Int))] ?_)
   obtain ⟨ab, ag⟩ := get_some (xs := L) (i := j) (by omega)
   refine WL.indexA (enc := (Go.Tw.encI .u64)) L 194 126 154 j .i64 (j : Int) ab (.int .u64 ab) 48 (by kernel_rfl) (by kernel_rfl) (Go.Tw.encI_len _) (by kernel_rfl) (by omega) (by omega) ag rfl (WLq 2 [(13, .int .u64 ab), (12, I6 (j : Int))] (WLd rfl (QXn (a1 _ _ (WCs (fun bD a2 => WCg (WLz 2 [(50, I6 (IntKind.i64.wrap (64 * (j : Int))))] (WLt (show (I6 (IntKind.i64.wrap (64 * (j : Int))) : Value) = I6 (64 * (j : Int)) from by rw [wrap_in_i64 (64 * (j : Int)) (by omega) (by omega)]) ?_))))))))
   refine WLz 2 [(52, .int .u64 (Go.bits .xor .u64 18446744073709551615 ab))] ?_
   have hm_ := hbits.2 _ _ ag
   have hnb_ := not_bits ab hm_.1 hm_.2.1
   have hle_ := tz_le (~~~ (BitVec.ofInt 64 ab))
   have htzc_ := Tz_ct (Go.bits .xor .u64 18446744073709551615 ab) bd hnb_.1 hnb_.2.1 (Rd.fr hg ap.fr)
   rw [hnb_.2.2] at htzc_
   refine WLk (htzc_) ?_
   rintro _ bE ⟨rfl, a3⟩
   refine ⟨_, rfl, ?_⟩
   have aw := ap.call a3
   refine WLq 1 [(54, I6 (IntKind.i64.wrap ((64 * (j : Int)) + (tz (~~~ (BitVec.ofInt 64 ab)) : Int))))] (WLt (show (I6 (IntKind.i64.wrap ((64 * (j : Int)) + (tz (~~~ (BitVec.ofInt 64 ab)) : Int))) : Value) = I6 ((64 * (j : Int)) + (tz (~~~ (BitVec.ofInt 64 ab)) : Int)) from by rw [wrap_in_i64 ((64 * (j : Int)) + (tz (~~~ (BitVec.ofInt 64 ab)) : Int)) (by omega) (by omega)]) (WLq 1 [(14, I6 ((64 * (j : Int)) + (tz (~~~ (BitVec.ofInt 64 ab)) : Int)))] (WLd rfl (QXn (a2 _ _ (WCs (fun bF ax => WCg (WLz 3 [(57, .bool (ab != 18446744073709551615))] ?_))))))))
   refine WLa 57 (ab != 18446744073709551615) rfl (fun ah => ?_) (fun ah => ?_)
   ·
    have bf : ab ≠ 18446744073709551615 := by simpa using ah
    obtain ⟨hfree_, htz_⟩ := free_hit hbits2 ag hlow (by assumption)
    refine WLz 3 [(60, .bool (decide (((64 * (j : Int)) + (tz (~~~ (BitVec.ofInt 64 ab)) : Int)) < 8064)))] (WLd rfl (QXn (ax _ _ (WC.know 60 (.bool (decide (((64 * (j : Int)) + (tz (~~~ (BitVec.ofInt 64 ab)) : Int)) < 8064))) (.bool true) rfl (congrArg Value.bool (by exact decide_eq_true (by omega))) (WCt rfl (WCs (fun bG a4 => WCg (WLz 2 [(62, I6 (IntKind.i64.wrap (((64 * (j : Int)) + (tz (~~~ (BitVec.ofInt 64 ab)) : Int)) * 8)))] ?_))))))))
    refine WLt (show (I6 (IntKind.i64.wrap (((64 * (j : Int)) + (tz (~~~ (BitVec.ofInt 64 ab)) : Int)) * 8)) : Value) = I6 (((64 * (j : Int)) + (tz (~~~ (BitVec.ofInt 64 ab)) : Int)) * 8) from by rw [wrap_in_i64 (((64 * (j : Int)) + (tz (~~~ (BitVec.ofInt 64 ab)) : Int)) * 8) (by omega) (by omega)]) (WLq 1 [(63, I6 (IntKind.i64.wrap (1024 + (((64 * (j : Int)) + (tz (~~~ (BitVec.ofInt 64 ab)) : Int)) * 8))))] (WLt (show (I6 (IntKind.i64.wrap (1024 + (((64 * (j : Int)) + (tz (~~~ (BitVec.ofInt 64 ab)) : Int)) * 8))) : Value) = I6 (1024 + (((64 * (j : Int)) + (tz (~~~ (BitVec.ofInt 64 ab)) : Int)) * 8)) from by rw [wrap_in_i64 (1024 + (((64 * (j : Int)) + (tz (~~~ (BitVec.ofInt 64 ab)) : Int)) * 8)) (by omega) (by omega)]) (WLq 2 [(7, .bool true), (6, I6 (1024 + (((64 * (j : Int)) + (tz (~~~ (BitVec.ofInt 64 ab)) : Int)) * 8)))] (WLd rfl (QXn (a4 _ _ (WC.ret (QXk ?_))))))))
    refine QXr (QXr (QXk (QXr ?_)))
    refine (hret _ _ _ rfl ?_).1
    exact ⟨congrArg Ending.returned (ret_free hfree_ (by omega)), aw.fr⟩
   ·
    have bf : ab = 18446744073709551615 := by simpa using ah
    refine WLz 3 [(60, .bool false)] (WLd rfl (QXn (ax _ _ (WCf rfl (WC.skip (QXb (QXn (a0 _ _ (WCg (WLq 1 [(64, I6 (IntKind.i64.wrap ((j : Int) + 1)))] (WLt (show (I6 (IntKind.i64.wrap ((j : Int) + 1)) : Value) = I6 ((j : Int) + 1) from by rw [wrap_in_i64 ((j : Int) + 1) (by omega) (by omega)]) ?_)))))))))))
    refine WLq 1 [(45, I6 ((j : Int) + 1))] (WLd rfl (QXn ?_))
    have a5 := aw.pick [0] [] rfl rfl
    refine fun a_ ha_ => aW _ _ _ ?_ ⟨j + 1, rfl, rfl, a5, by omega, free_next hbits2 (by rw [ag]; exact congrArg some (by simpa using ah)) hlow⟩ a_ (ha_.weaken (sub_of ⟨rfl, rfl, rfl, rfl, rfl, rfl, rfl, rfl, rfl, rfl, trivial⟩))
    omega
  ·
   have be : (126 : Int) ≤ (j : Int) := by have q_ := of_decide_eq_false aq; omega
   refine WCf rfl (WC.exit (QXe (QXe (QX.block_hit (QXn (aU _ _ ?_))))))
   refine WCs (fun bg ay => WCg (WLq 2 [(7, .bool false), (6, I6 0)] (WLd rfl (QXn (ay _ _ (WC.ret ?_))))))
   refine (hret _ _ _ rfl ?_).1
   exact ⟨congrArg Ending.returned (ret_free0 (free_none (fun n hn => hlow n (by omega)))), ap.fr⟩

end Go.Proofs.YtfligklljkcbfaaGreatDoor
