/- Contracts of functions of the program, each proved by a walk through its code; conditions stand in the statements. -/
import Derived.Test.YtfligklljkcbfaaDoorStI16
namespace Go.Proofs.YtfligklljkcbfaaDoor
set_option linter.unusedSimpArgs false
set_option linter.unusedVariables false
set_option linter.unusedSectionVars false
open Go Go.RowKit Go.Tw
set_option linter.unusedVariables false
set_option maxRecDepth 20000
def blkN (x : Lease) : Nat := ((x.first - 1024) / 8).toNat
def lentAt (vip now : Int) (n : Nat) (x : Lease) : Bool := decide (x.vip = vip) && livesB x now && decide (blkN x = n)
def lentB (xs : List Lease) (vip now : Int) (n : Nat) : Bool := xs.any (lentAt vip now n)
def freeN (xs : List Lease) (vip now : Int) : Option Nat := (List.range 8064).find? (fun n => !lentB xs vip now n)
def freeF (xs : List Lease) (vip now : Int) : Int := match freeN xs vip now with | some n => 1024 + 8 * (n : Int) | none => 0
theorem good_first {x : Lease} (h : lgoodL x = true) : 1024 ≤ x.first ∧ x.first ≤ 65528 ∧ (x.first - 1024) % 8 = 0 ∧ x.first = 1024 + 8 * (blkN x : Int) ∧ blkN x < 8064 := by
  simp only [lgoodL, goodBlock, Bool.and_eq_true, decide_eq_true_eq] at h
  obtain ⟨⟨⟨⟨_, _⟩, h⟩, _⟩, _⟩ := h
  unfold blkN; omega
def bitsInv (xs : List Lease) (vip now : Int) (L : List Int) : Prop := L.length = 126 ∧ ∀ j m, L[j]? = some m → 0 ≤ m ∧ m ≤ 18446744073709551615 ∧ ∀ b, b < 64 → (BitVec.ofInt 64 m).getLsbD b = lentB xs vip now (64 * j + b)
theorem bits_init (vip now : Int) : bitsInv [] vip now (List.replicate 126 0) := by
  refine ⟨by simp, fun j m hm => ?_⟩
  rw [List.getElem?_replicate] at hm
  split at hm
  · cases hm
    refine ⟨by decide, by decide, fun b hb => ?_⟩
    simp [lentB]
  · cases hm
theorem lent_snoc {xs : List Lease} {k : Nat} {x : Lease} (h : xs[k]? = some x) (vip now : Int) (n : Nat) : lentB (xs.take (k + 1)) vip now n = (lentB (xs.take k) vip now n || lentAt vip now n x) := by
  obtain ⟨hk, rfl⟩ := List.getElem?_eq_some_iff.1 h
  simp only [lentB]
  rw [List.take_succ_eq_append_getElem hk, List.any_append]
  simp
theorem bits_skip {xs : List Lease} {k : Nat} {x : Lease} {vip now : Int} {L : List Int} (h : xs[k]? = some x) (hb : bitsInv (xs.take k) vip now L) (hx : (decide (x.vip = vip) && livesB x now) = false) : bitsInv (xs.take (k + 1)) vip now L := by
  refine ⟨hb.1, fun j m hm => ?_⟩
  obtain ⟨h1, h2, h3⟩ := hb.2 j m hm
  refine ⟨h1, h2, fun b hb => ?_⟩
  rw [h3 b hb, lent_snoc h, lentAt, hx]
  simp
theorem or_pow (m : Int) (b : Nat) (h0 : 0 ≤ m) (h1 : m ≤ 18446744073709551615) (hb : b < 64) : 0 ≤ Go.bits .or .u64 m (2 ^ b) ∧ Go.bits .or .u64 m (2 ^ b) ≤ 18446744073709551615 ∧ ∀ i, i < 64 → (BitVec.ofInt 64 (Go.bits .or .u64 m (2 ^ b))).getLsbD i = ((BitVec.ofInt 64 m).getLsbD i || decide (i = b)) := by
  have e1 : Go.bits .or .u64 m (2 ^ b) = ((BitVec.ofInt 64 m ||| BitVec.twoPow 64 b).toNat : Int) := by
    show IntKind.u64.wrap ((BitVec.ofInt 64 m ||| BitVec.ofInt 64 (2 ^ b)).toNat : Int) = _
    have e2 : BitVec.ofInt 64 (2 ^ b) = BitVec.twoPow 64 b := by
      apply BitVec.eq_of_toNat_eq
      rw [BitVec.toNat_twoPow, BitVec.toNat_ofInt]
      have : ((2 : Int) ^ b) = ((2 ^ b : Nat) : Int) := by simp
      rw [this]
      omega
    rw [e2, wrap_in_u64 _ (by omega) (by have := (BitVec.ofInt 64 m ||| BitVec.twoPow 64 b).isLt; omega)]
  have hlt := (BitVec.ofInt 64 m ||| BitVec.twoPow 64 b).isLt
  refine ⟨by omega, by omega, fun i hi => ?_⟩
  rw [e1, BitVec.ofInt_natCast, BitVec.ofNat_toNat, BitVec.setWidth_eq, BitVec.getLsbD_or, BitVec.getLsbD_twoPow]
  simp [hi, hb, eq_comm]
theorem bits_set {xs : List Lease} {k : Nat} {x : Lease} {vip now : Int} {L : List Int} {m : Int} (h : xs[k]? = some x) (hb : bitsInv (xs.take k) vip now L) (hv : x.vip = vip) (hl : livesB x now = true) (hm : L[blkN x / 64]? = some m) : bitsInv (xs.take (k + 1)) vip now (L.set (blkN x / 64) (Go.bits .or .u64 m (2 ^ (blkN x % 64)))) := by
  refine ⟨by rw [List.length_set]; exact hb.1, fun j m' hm' => ?_⟩
  have hlt : blkN x / 64 < L.length := (List.getElem?_eq_some_iff.1 hm).1
  by_cases e : j = blkN x / 64
  · subst e
    rw [List.getElem?_set_self hlt] at hm'
    cases hm'
    obtain ⟨h1, h2, h3⟩ := hb.2 _ m hm
    obtain ⟨g1, g2, g3⟩ := or_pow m (blkN x % 64) h1 h2 (by omega)
    refine ⟨g1, g2, fun b hb' => ?_⟩
    rw [g3 b hb', h3 b hb', lent_snoc h]
    congr 1
    simp only [lentAt, hv, hl]
    simp
    omega
  · rw [List.getElem?_set_ne (Ne.symm e)] at hm'
    obtain ⟨h1, h2, h3⟩ := hb.2 j m' hm'
    refine ⟨h1, h2, fun b hb' => ?_⟩
    rw [h3 b hb', lent_snoc h]
    simp only [lentAt, hv, hl]
    have : ¬ blkN x = 64 * j + b := by omega
    simp [this]
theorem not_bits (m : Int) (h0 : 0 ≤ m) (h1 : m ≤ 18446744073709551615) : 0 ≤ Go.bits .xor .u64 18446744073709551615 m ∧ Go.bits .xor .u64 18446744073709551615 m ≤ 18446744073709551615 ∧ BitVec.ofInt 64 (Go.bits .xor .u64 18446744073709551615 m) = ~~~ (BitVec.ofInt 64 m) := by
  have e1 : Go.bits .xor .u64 18446744073709551615 m = ((~~~ (BitVec.ofInt 64 m)).toNat : Int) := by
    show IntKind.u64.wrap ((BitVec.ofInt 64 18446744073709551615 ^^^ BitVec.ofInt 64 m).toNat : Int) = _
    have e2 : BitVec.ofInt 64 18446744073709551615 = BitVec.allOnes 64 := by decide
    rw [e2, BitVec.allOnes_xor, wrap_in_u64 _ (by omega) (by have := (~~~ (BitVec.ofInt 64 m)).isLt; omega)]
  have hlt := (~~~ (BitVec.ofInt 64 m)).isLt
  refine ⟨by omega, by omega, ?_⟩
  rw [e1, BitVec.ofInt_natCast, BitVec.ofNat_toNat, BitVec.setWidth_eq]
theorem free_hit {xs : List Lease} {vip now : Int} {L : List Int} {m : Int} {j : Nat} (hb : bitsInv xs vip now L) (hm : L[j]? = some m) (hlow : ∀ n, n < 64 * j → lentB xs vip now n = true) (hne : ¬ m = 18446744073709551615) : freeN xs vip now = some (64 * j + tz (~~~ (BitVec.ofInt 64 m))) ∧ tz (~~~ (BitVec.ofInt 64 m)) < 64 := by
  have hj : j < 126 := by have := (List.getElem?_eq_some_iff.1 hm).1; have := hb.1; omega
  obtain ⟨h1, h2, h3⟩ := hb.2 j m hm
  have hx : ~~~ (BitVec.ofInt 64 m) ≠ 0 := fun h => hne (by
    have h4 : BitVec.ofInt 64 m = ~~~ (0 : BitVec 64) := by rw [← h, BitVec.not_not]
    have h5 : (BitVec.ofInt 64 m).toNat = 18446744073709551615 := by rw [h4]; decide
    rw [BitVec.toNat_ofInt] at h5
    omega)
  obtain ⟨g1, g2, g3⟩ := tz_spec hx
  refine ⟨?_, g1⟩
  unfold freeN
  rw [List.find?_range_eq_some]
  have key : ∀ b, b < 64 → lentB xs vip now (64 * j + b) = !((~~~ (BitVec.ofInt 64 m)).getLsbD b) := fun b hb' => by
    rw [← h3 b hb', BitVec.getLsbD_not]; simp [hb']
  refine ⟨?_, by simp; omega, fun n hn => ?_⟩
  · rw [key _ g1, g2]; rfl
  · by_cases hl : n < 64 * j
    · simp [hlow n hl]
    · have e : n = 64 * j + (n - 64 * j) := by omega
      rw [e, key _ (by omega), g3 _ (by omega)]; rfl
theorem free_next {xs : List Lease} {vip now : Int} {L : List Int} {j : Nat} (hb : bitsInv xs vip now L) (hm : L[j]? = some 18446744073709551615) (hlow : ∀ n, n < 64 * j → lentB xs vip now n = true) : ∀ n, n < 64 * (j + 1) → lentB xs vip now n = true := by
  intro n hn
  by_cases hl : n < 64 * j
  · exact hlow n hl
  · obtain ⟨h1, h2, h3⟩ := hb.2 j _ hm
    have e : n = 64 * j + (n - 64 * j) := by omega
    rw [e, ← h3 _ (by omega)]
    have e2 : BitVec.ofInt 64 18446744073709551615 = BitVec.allOnes 64 := by decide
    rw [e2, BitVec.getLsbD_allOnes]
    simp; omega
theorem free_none {xs : List Lease} {vip now : Int} (hlow : ∀ n, n < 64 * 126 → lentB xs vip now n = true) : freeN xs vip now = none := by
  unfold freeN
  rw [List.find?_eq_none]
  intro n hn
  simp at hn
  simp [hlow n (by omega)]
theorem ret_free {xs : List Lease} {vip now v : Int} {n : Nat} (h : freeN xs vip now = some n) (hv : v = 1024 + 8 * (n : Int)) : shut [.int .i64 v, .bool true] = .tuple #[.int .i64 (freeF xs vip now), .bool (freeN xs vip now).isSome] := by
  subst hv
  unfold freeF
  rw [h]; rfl
theorem ret_free0 {xs : List Lease} {vip now : Int} (h : freeN xs vip now = none) : shut [.int .i64 0, .bool false] = .tuple #[.int .i64 (freeF xs vip now), .bool (freeN xs vip now).isSome] := by
  unfold freeF
  rw [h]; rfl
theorem pow_le_u64 {b : Nat} (hb : b < 64) : (2 : Int) ^ b ≤ 18446744073709551615 := by
  have h : (2 ^ b : Nat) ≤ 2 ^ 63 := Nat.pow_le_pow_right (by decide) (by omega)
  have : ((2 : Int) ^ b) = ((2 ^ b : Nat) : Int) := by simp
  omega
theorem free_ct (A : Option Addr) (c : Nat) (xs : List Lease) (vip now : Int) (w : World) (hr : Rd w 4 encL A xs) (hgood : ∀ x ∈ xs, lgoodL x = true) (hm : xs.length < 2 ^ 40) (hg : Rd w 1 (encI .u8) (some ⟨0, 0, none⟩) dbTab) : Calls Tryd.prog 88 #[.slice A xs.length c, .int .u32 vip, .int .i64 now] w fun e w' => e = .returned (.tuple #[.int .i64 (freeF xs vip now), .bool (freeN xs vip now).isSome]) ∧ Fr w w' [] := by
 refine enterD (n := 65) Tryd.func88 rfl rfl (Nat.le_of_ble_eq_true rfl) ?_
 intro Q0 hN hret hret'
 have hC := Cx.start w
 refine WCs (fun K1 hK2 => ?_)
 refine WCg (WLr 2 [(7, .bool false), (6, .int .i64 0)] (fun _ => by kernel_rfl) (WLd rfl (QXn (hK2 _ _ ?_))))
 refine WCs (fun K3 hK4 => ?_)
 refine WCg ?_
 refine WL.newM hC (fun b => .pointer (some ⟨b, 0, none⟩)) (.cells ((List.replicate 126 0).flatMap (Go.Tw.encI .u64)).toArray 147 (0, 0)) 8 (fun _ => by kernel_rfl) (fun g5 w6 hb9 hF7 hC8 => ?_)
 refine WLd rfl (QXn (hK4 _ _ ?_))
 refine WCs (fun K10 hK11 => ?_)
 refine WCs (fun K12 hK13 => ?_)
 refine WCg (WLr 3 [(17, .int .i64 0), (16, .int .i64 (xs.length : Int)), (15, .slice A xs.length c)] (fun _ => by kernel_rfl) (WLd rfl (QXn (hK13 _ _ ?_))))
 refine WC.block ?_
 refine WC.loop (fun m_ E_ w_ => ∃ (k : Nat) (L : List Int), m_ = xs.length - k ∧ E_ = [(0, .slice A xs.length c), (1, .int .u32 vip), (2, .int .i64 now), (6, .int .i64 0), (7, .bool false), (8, .pointer (some ⟨g5, 0, none⟩)), (15, .slice A xs.length c), (16, .int .i64 (xs.length : Int)), (17, .int .i64 (k : Int))] ∧ Cx w [] w_ [(g5, .cells (L.flatMap (Go.Tw.encI .u64)).toArray 147 (0, 0))] [] ∧ (k ≤ xs.length ∧ bitsInv (xs.take k) vip now L)) ⟨_, _, ⟨0, _, rfl, rfl, hC8, Nat.zero_le _, bits_init vip now⟩, sub_of ⟨rfl, rfl, rfl, rfl, rfl, rfl, rfl, rfl, rfl, trivial⟩⟩ (fun m17 E_ w18 K14 hK15 hI16 => ?_)
 obtain ⟨k, L, rfl, rfl, hC19, hk, hbits⟩ := hI16
 have hlen126 := hbits.1
 refine WCs (fun K20 hK21 => ?_)
 refine WCg (WLr 1 [(18, .bool (decide ((k : Int) < (xs.length : Int))))] (fun _ => by kernel_rfl) (WLd rfl (QXn (hK21 _ _ ?_))))
 refine WCs (fun K22 hK23 => ?_)
 refine WCa 18 (decide ((k : Int) < (xs.length : Int))) rfl (fun t24b => ?_) (fun t24b => ?_)
 ·
  have t24 : (k : Int) < (xs.length : Int) := by have q_ := of_decide_eq_true t24b; omega
  refine WCt rfl ?_
  refine WC.skip ?_
  refine QXn (hK23 _ _ ?_)
  refine WCs (fun K25 hK26 => ?_)
  refine WC.block ?_
  refine WCs (fun K27 hK28 => ?_)
  refine WCg ?_
  obtain ⟨e29, he30⟩ := get_some (xs := xs) (i := k) (by omega)
  obtain ⟨b31, o33, hA32, hc34⟩ := hr.at_ _ _ he30
  obtain ⟨hg1_, hg2_, hg3_, hg4_, hg5_⟩ := good_first (hgood _ (List.mem_of_getElem? he30))
  refine WLi A xs.length c 19 .i64 (k : Int) b31 o33 k 4 (by kernel_rfl) hA32 (by omega) (by omega) (o33 + k * 4) (by first | (simp; done) | omega) ?_
  refine WL.load 43 (.pointer (some ⟨b31, o33 + k * 4, none⟩)) (.agg #[.int .u32 e29.vip, .int .i64 e29.first, .int .u32 e29.dip, .int .i64 e29.exp]) 20 (by kernel_rfl) (run_rdN (l := [.int .u32 e29.vip, .int .i64 e29.first, .int .u32 e29.dip, .int .i64 e29.exp]) rfl rfl (fun j u hu => by have hq_ := hC19.fr.cell (hc34 j u hu) (by simp); simpa [Nat.add_assoc] using hq_)) ?_
  refine WL.newM hC19 (fun b => .pointer (some ⟨b, 0, none⟩)) (.cells #[.int .u32 0, .int .i64 0, .int .u32 0, .int .i64 0] 43) 10 (fun _ => by kernel_rfl) (fun g35 w36 hb39 hF37 hC38 => ?_)
  refine WLs (c' := #[.int .u32 e29.vip, .int .i64 e29.first, .int .u32 e29.dip, .int .i64 e29.exp]) hC38 1 43 g35 0 (.agg #[.int .u32 e29.vip, .int .i64 e29.first, .int .u32 e29.dip, .int .i64 e29.exp]) (by kernel_rfl) rfl (by kernel_rfl) (fun w40 hF42 hC43 => ?_)
  refine WLd rfl (QXn (hK28 _ _ ?_))
  refine WCs (fun K44 hK45 => ?_)
  refine WCg (WLr 1 [(21, .pointer (some ⟨g35, 0, none⟩))] (fun _ => by kernel_rfl) ?_)
  refine WL.load 41 (.pointer (some ⟨g35, 0, none⟩)) (.int .u32 e29.vip) 22 (by kernel_rfl) (run_ld (hC43.get 1 rfl) rfl) ?_
  refine WLr 3 [(25, .bool (e29.vip == vip)), (24, .bool (e29.vip == vip)), (23, .int .u32 vip)] (fun _ => by kernel_rfl) ?_
  refine WLa 25 (e29.vip == vip) rfl (fun t46b => ?_) (fun t46b => ?_)
  ·
   have t46 : e29.vip = vip := by simpa using t46b
   refine WL.load 43 (.pointer (some ⟨g35, 0, none⟩)) (.agg #[.int .u32 e29.vip, .int .i64 e29.first, .int .u32 e29.dip, .int .i64 e29.exp]) 26 (by kernel_rfl) (run_ld (hC43.get 1 rfl) rfl) ?_
   refine WLr 1 [(27, .int .i64 now)] (fun _ => by kernel_rfl) ?_
   refine WLc rfl rfl rfl rfl rfl (by kernel_rfl) (lives_ct e29 now w40) ?_
   rintro _ w48 ⟨rfl, hF47⟩
   refine ⟨_, rfl, ?_⟩
   have hC49 := hC43.call hF47
   refine WLr 1 [(29, .bool (livesB e29 now))] (fun _ => by kernel_rfl) (WLd rfl (QXn (hK45 _ _ ?_)))
   refine WCa 29 (livesB e29 now) rfl (fun t50b => ?_) (fun t50b => ?_)
   ·
    refine WCt rfl ?_
    refine WCs (fun K51 hK52 => ?_)
    refine WCg (WLr 1 [(30, .pointer (some ⟨g35, 1, none⟩))] (fun _ => by kernel_rfl) ?_)
    refine WL.load 3 (.pointer (some ⟨g35, 1, none⟩)) (.int .i64 e29.first) 31 (by kernel_rfl) (run_ld (hC49.get 1 rfl) rfl) ?_
    refine WLr 1 [(32, .int .i64 (IntKind.i64.wrap (e29.first - 1024)))] (fun _ => by kernel_rfl) ?_
    refine WLt (show (.int .i64 (IntKind.i64.wrap (e29.first - 1024)) : Value) = .int .i64 (e29.first - 1024) from by rw [wrap_in_i64 (e29.first - 1024) (by omega) (by omega)]) ?_
    refine WLr 1 [(33, .int .i64 (IntKind.i64.wrap (Int.tdiv (e29.first - 1024) 8)))] (fun _ => by kernel_rfl) ?_
    refine WLt (show (.int .i64 (IntKind.i64.wrap (Int.tdiv (e29.first - 1024) 8)) : Value) = .int .i64 (blkN e29 : Int) from by rw [Int.tdiv_eq_ediv_of_nonneg (by omega), wrap_in_i64 _ (by omega) (by omega)]; congr 1; omega) ?_
    refine WLr 1 [(11, .int .i64 (blkN e29 : Int))] (fun _ => by kernel_rfl) (WLd rfl (QXn (hK52 _ _ ?_)))
    refine WC.drawC hC49 [g5] (by kernel_rfl) (fun w53 hF54 hC55 hS56 => ?_)
    refine WDp (NPb (NPt (NPt (NPb (NPt hN))))) 0 34 (.int .i64 (blkN e29 : Int)) (by kernel_rfl) (fun _ => by kernel_rfl) hS56 ?_
    refine WDp (NPb (NPt (NPt (NPb (NPt hN))))) 1 35 (.int .i64 (IntKind.i64.wrap (Int.tdiv (blkN e29 : Int) 64))) (by kernel_rfl) (fun _ => by kernel_rfl) hS56 ?_
    refine WD.recast (show (.int .i64 (IntKind.i64.wrap (Int.tdiv (blkN e29 : Int) 64)) : Value) = .int .i64 ((blkN e29 / 64 : Nat) : Int) from by rw [Int.tdiv_eq_ediv_of_nonneg (by omega), wrap_in_i64 _ (by omega) (by omega)]; congr 1) ?_
    obtain ⟨e57, he58⟩ := get_some (xs := L) (i := (blkN e29 / 64)) (by omega)
    refine WD.indexP (NPb (NPt (NPt (NPb (NPt hN))))) 2 147 126 146 1 g5 0 (blkN e29 / 64) .i64 ((blkN e29 / 64 : Nat) : Int) 36 (by kernel_rfl) (by kernel_rfl) (by kernel_rfl) (by omega) (by omega) (blkN e29 / 64) (by first | (simp; done) | omega) hS56 ?_
    refine WDp (NPb (NPt (NPt (NPb (NPt hN))))) 4 38 (.int .i64 (blkN e29 : Int)) (by kernel_rfl) (fun _ => by kernel_rfl) hS56 ?_
    refine WDp (NPb (NPt (NPt (NPb (NPt hN))))) 5 39 (.int .i64 (Int.tmod (blkN e29 : Int) 64)) (by kernel_rfl) (fun _ => by kernel_rfl) hS56 ?_
    refine WD.recast (show (.int .i64 (Int.tmod (blkN e29 : Int) 64) : Value) = .int .i64 ((blkN e29 % 64 : Nat) : Int) from by rw [Int.tmod_eq_emod_of_nonneg (by omega)]; congr 1) ?_
    have hr59 : ∀ w_, Sem.run Tryd.prog (do eqGuard .shl 146 (Operand.const (.int .u64 1)) (Operand.tmp 39) (.int .u64 1) (.int .i64 ((blkN e29 % 64 : Nat) : Int)); binOp .shl 146 (.int .u64 1) (.int .i64 ((blkN e29 % 64 : Nat) : Int))) w_ = .ok (.int .u64 (IntKind.u64.wrap (1 * 2 ^ (blkN e29 % 64)))) w_ := fun w_ => (run_shl (b := (blkN e29 % 64)) (by omega) (by show (blkN e29 % 64) ≤ 64; omega))
    refine WD.semP (NPb (NPt (NPt (NPb (NPt hN))))) 6 (do eqGuard .shl 146 (Operand.const (.int .u64 1)) (Operand.tmp 39) (.int .u64 1) (.int .i64 ((blkN e29 % 64 : Nat) : Int)); binOp .shl 146 (.int .u64 1) (.int .i64 ((blkN e29 % 64 : Nat) : Int))) 40 (.int .u64 (IntKind.u64.wrap (1 * 2 ^ (blkN e29 % 64)))) (by kernel_rfl) (by kernel_rfl) (fun _ _ => hr59 _) hS56 ?_
    refine WD.recast (show (.int .u64 (IntKind.u64.wrap (1 * 2 ^ (blkN e29 % 64))) : Value) = .int .u64 ((2 : Int) ^ (blkN e29 % 64)) from by rw [Int.one_mul, wrap_in_u64 _ (Int.pow_nonneg (by decide)) (pow_le_u64 (by omega))]) ?_
    refine WD.sem 3 (Instr.loadAt 146 (.pointer (some ⟨g5, (blkN e29 / 64), none⟩))) 37 (.int .u64 e57) (by kernel_rfl) (by kernel_rfl) (run_load1 rfl (by simpa [Nat.add_assoc] using Rd.cell (Rd.blk (hC55.get 0 rfl) (Go.Tw.encI_len _) rfl) rfl he58 0 _ rfl)) hS56 ?_
    refine WDp (NPb (NPt (NPt (NPb (NPt hN))))) 7 41 (.int .u64 (Go.bits .or .u64 e57 ((2 : Int) ^ (blkN e29 % 64)))) (by kernel_rfl) (fun _ => by kernel_rfl) hS56 ?_
    refine WD.indexP (NPb (NPt (NPt (NPb (NPt hN))))) 8 147 126 146 1 g5 0 (blkN e29 / 64) .i64 ((blkN e29 / 64 : Nat) : Int) 42 (by kernel_rfl) (by kernel_rfl) (by kernel_rfl) (by omega) (by omega) (blkN e29 / 64) (by first | (simp; done) | omega) hS56 ?_
    obtain ⟨w60, hr61, hF62, hC63⟩ := stoML_run Tryd.prog (Go.Tw.encI_len _) hC55 0 rfl (blkN e29 / 64) 0 (x := e57) he58 (Go.bits .or .u64 e57 ((2 : Int) ^ (blkN e29 % 64))) [.int .u64 (Go.bits .or .u64 e57 ((2 : Int) ^ (blkN e29 % 64)))] rfl 146 (.int .u64 (Go.bits .or .u64 e57 ((2 : Int) ^ (blkN e29 % 64)))) ((blkN e29 / 64)) rfl rfl rfl (by first | rfl | simp [Nat.add_assoc])
    have hS64 := hS56.trans hF62 (by first | (simp; done) | (simp [*]; done) | (have q_ := hS56.size; simp; omega))
    refine WD.semU 9 (Instr.storeAt 146 (.pointer (some ⟨g5, (blkN e29 / 64), none⟩)) (.int .u64 (Go.bits .or .u64 e57 ((2 : Int) ^ (blkN e29 % 64))))) (by kernel_rfl) (by kernel_rfl) hr61 hS64 ?_
    refine WD.done (by kernel_rfl) ?_
    refine QXb ?_
    refine QXn (hK26 _ _ ?_)
    refine WCg (WLr 1 [(43, .int .i64 (IntKind.i64.wrap ((k : Int) + 1)))] (fun _ => by kernel_rfl) ?_)
    refine WLt (show (.int .i64 (IntKind.i64.wrap ((k : Int) + 1)) : Value) = .int .i64 ((k : Int) + 1) from by rw [wrap_in_i64 ((k : Int) + 1) (by omega) (by omega)]) ?_
    refine WLr 1 [(17, .int .i64 ((k : Int) + 1))] (fun _ => by kernel_rfl) ?_
    refine WLd rfl ?_
    refine QXn ?_
    have hC65 := hC63.pick [0] [] rfl rfl
    refine fun a_ ha_ => hK15 _ _ _ ?_ ⟨k + 1, (L.set (blkN e29 / 64) (Go.bits .or .u64 e57 ((2 : Int) ^ (blkN e29 % 64)))), rfl, rfl, hC65, by omega, bits_set he30 hbits (by assumption) (by assumption) he58⟩ a_ (ha_.weaken (sub_of ⟨rfl, rfl, rfl, rfl, rfl, rfl, rfl, rfl, rfl, trivial⟩))
    omega
   ·
    refine WCf rfl (WC.skip ?_)
    refine QXb ?_
    refine QXn (hK26 _ _ ?_)
    refine WCg (WLr 1 [(43, .int .i64 (IntKind.i64.wrap ((k : Int) + 1)))] (fun _ => by kernel_rfl) ?_)
    refine WLt (show (.int .i64 (IntKind.i64.wrap ((k : Int) + 1)) : Value) = .int .i64 ((k : Int) + 1) from by rw [wrap_in_i64 ((k : Int) + 1) (by omega) (by omega)]) ?_
    refine WLr 1 [(17, .int .i64 ((k : Int) + 1))] (fun _ => by kernel_rfl) ?_
    refine WLd rfl ?_
    refine QXn ?_
    have hC66 := hC49.pick [0] [] rfl rfl
    refine fun a_ ha_ => hK15 _ _ _ ?_ ⟨k + 1, L, rfl, rfl, hC66, by omega, bits_skip he30 hbits (by simp [*])⟩ a_ (ha_.weaken (sub_of ⟨rfl, rfl, rfl, rfl, rfl, rfl, rfl, rfl, rfl, trivial⟩))
    omega
  ·
   have t46 : ¬ (e29.vip = vip) := by simpa using t46b
   refine WLr 4 [(29, .bool false), (28, undef), (27, undef), (26, undef)] (fun _ => by kernel_rfl) (WLd rfl (QXn (hK45 _ _ ?_)))
   refine WCf rfl (WC.skip ?_)
   refine QXb ?_
   refine QXn (hK26 _ _ ?_)
   refine WCg (WLr 1 [(43, .int .i64 (IntKind.i64.wrap ((k : Int) + 1)))] (fun _ => by kernel_rfl) ?_)
   refine WLt (show (.int .i64 (IntKind.i64.wrap ((k : Int) + 1)) : Value) = .int .i64 ((k : Int) + 1) from by rw [wrap_in_i64 ((k : Int) + 1) (by omega) (by omega)]) ?_
   refine WLr 1 [(17, .int .i64 ((k : Int) + 1))] (fun _ => by kernel_rfl) ?_
   refine WLd rfl ?_
   refine QXn ?_
   have hC67 := hC43.pick [0] [] rfl rfl
   refine fun a_ ha_ => hK15 _ _ _ ?_ ⟨k + 1, L, rfl, rfl, hC67, by omega, bits_skip he30 hbits (by simp [*])⟩ a_ (ha_.weaken (sub_of ⟨rfl, rfl, rfl, rfl, rfl, rfl, rfl, rfl, rfl, trivial⟩))
   omega
 ·
  have t24 : (xs.length : Int) ≤ (k : Int) := by have q_ := of_decide_eq_false t24b; omega
  refine WCf rfl ?_
  refine WC.exit ?_
  refine QXe ?_
  refine QXe ?_
  refine QX.block_hit ?_
  refine QXn (hK11 _ _ ?_)
  refine WCs (fun K68 hK69 => ?_)
  refine WCs (fun K70 hK71 => ?_)
  refine WCg ?_
  refine WL.load 147 (.pointer (some ⟨g5, 0, none⟩)) (.agg (L.flatMap (Go.Tw.encI .u64)).toArray) 44 (by kernel_rfl) (run_ldL (hC19.get 0 rfl) rfl ((flat_len (Go.Tw.encI_len _) _).trans (by show _ = 126; omega)).symm) ?_
  refine WLr 1 [(45, .int .i64 0)] (fun _ => by kernel_rfl) (WLd rfl (QXn (hK71 _ _ ?_)))
  refine WC.block ?_
  have hbits2 : bitsInv xs vip now L := by
   have hk2 : xs.take k = xs := List.take_of_length_le (by omega)
   rw [hk2] at hbits
   exact hbits
  refine WC.loop (fun m_ E_ w_ => ∃ (j : Nat), m_ = 126 - j ∧ E_ = [(0, .slice A xs.length c), (1, .int .u32 vip), (2, .int .i64 now), (8, .pointer (some ⟨g5, 0, none⟩)), (15, .slice A xs.length c), (16, .int .i64 (xs.length : Int)), (17, .int .i64 (k : Int)), (18, .bool false), (44, .agg (L.flatMap (Go.Tw.encI .u64)).toArray), (45, .int .i64 (j : Int))] ∧ Cx w [] w_ [(g5, .cells (L.flatMap (Go.Tw.encI .u64)).toArray 147 (0, 0))] [] ∧ (j ≤ 126 ∧ ∀ n, n < 64 * j → lentB xs vip now n = true)) ⟨_, _, ⟨0, rfl, rfl, hC19, Nat.zero_le _, fun n hn => by omega⟩, sub_of ⟨rfl, rfl, rfl, rfl, rfl, rfl, rfl, rfl, rfl, rfl, trivial⟩⟩ (fun m75 E_ w76 K72 hK73 hI74 => ?_)
  obtain ⟨j, rfl, rfl, hC77, hj, hlow⟩ := hI74
  refine WCs (fun K78 hK79 => ?_)
  refine WCg (WLr 1 [(46, .bool (decide ((j : Int) < 126)))] (fun _ => by kernel_rfl) (WLd rfl (QXn (hK79 _ _ ?_))))
  refine WCs (fun K80 hK81 => ?_)
  refine WCa 46 (decide ((j : Int) < 126)) rfl (fun t82b => ?_) (fun t82b => ?_)
  ·
   have t82 : (j : Int) < 126 := by have q_ := of_decide_eq_true t82b; omega
   refine WCt rfl ?_
   refine WC.skip ?_
   refine QXn (hK81 _ _ ?_)
   refine WCs (fun K83 hK84 => ?_)
   refine WC.block ?_
   refine WCs (fun K85 hK86 => ?_)
   refine WCg (WLr 1 [(47, .int .i64 (j : Int))] (fun _ => by kernel_rfl) ?_)
   obtain ⟨e87, he88⟩ := get_some (xs := L) (i := j) (by omega)
   refine WL.indexA (enc := (Go.Tw.encI .u64)) L 147 126 146 j .i64 (j : Int) e87 (.int .u64 e87) 48 (by kernel_rfl) (by kernel_rfl) (Go.Tw.encI_len _) (by kernel_rfl) (by omega) (by omega) he88 rfl ?_
   refine WLr 2 [(13, .int .u64 e87), (12, .int .i64 (j : Int))] (fun _ => by kernel_rfl) (WLd rfl (QXn (hK86 _ _ ?_)))
   refine WCs (fun K89 hK90 => ?_)
   refine WCg (WLr 2 [(50, .int .i64 (IntKind.i64.wrap (64 * (j : Int)))), (49, .int .i64 (j : Int))] (fun _ => by kernel_rfl) ?_)
   refine WLt (show (.int .i64 (IntKind.i64.wrap (64 * (j : Int))) : Value) = .int .i64 (64 * (j : Int)) from by rw [wrap_in_i64 (64 * (j : Int)) (by omega) (by omega)]) ?_
   refine WLr 2 [(52, .int .u64 (Go.bits .xor .u64 18446744073709551615 e87)), (51, .int .u64 e87)] (fun _ => by kernel_rfl) ?_
   have hm_ := hbits.2 _ _ he88
   have hnb_ := not_bits e87 hm_.1 hm_.2.1
   have hle_ := tz_le (~~~ (BitVec.ofInt 64 e87))
   have htzc_ := Tz_ct (Go.bits .xor .u64 18446744073709551615 e87) w76 hnb_.1 hnb_.2.1 (Rd.fr hg hC77.fr)
   rw [hnb_.2.2] at htzc_
   refine WLc rfl rfl rfl rfl rfl (by kernel_rfl) (htzc_) ?_
   rintro _ w92 ⟨rfl, hF91⟩
   refine ⟨_, rfl, ?_⟩
   have hC93 := hC77.call hF91
   refine WLr 1 [(54, .int .i64 (IntKind.i64.wrap ((64 * (j : Int)) + (tz (~~~ (BitVec.ofInt 64 e87)) : Int))))] (fun _ => by kernel_rfl) ?_
   refine WLt (show (.int .i64 (IntKind.i64.wrap ((64 * (j : Int)) + (tz (~~~ (BitVec.ofInt 64 e87)) : Int))) : Value) = .int .i64 ((64 * (j : Int)) + (tz (~~~ (BitVec.ofInt 64 e87)) : Int)) from by rw [wrap_in_i64 ((64 * (j : Int)) + (tz (~~~ (BitVec.ofInt 64 e87)) : Int)) (by omega) (by omega)]) ?_
   refine WLr 1 [(14, .int .i64 ((64 * (j : Int)) + (tz (~~~ (BitVec.ofInt 64 e87)) : Int)))] (fun _ => by kernel_rfl) (WLd rfl (QXn (hK90 _ _ ?_)))
   refine WCs (fun K94 hK95 => ?_)
   refine WCg (WLr 3 [(57, .bool (e87 != 18446744073709551615)), (56, .bool (e87 != 18446744073709551615)), (55, .int .u64 e87)] (fun _ => by kernel_rfl) ?_)
   refine WLa 57 (e87 != 18446744073709551615) rfl (fun t96b => ?_) (fun t96b => ?_)
   ·
    have t96 : e87 ≠ 18446744073709551615 := by simpa using t96b
    obtain ⟨hfree_, htz_⟩ := free_hit hbits2 he88 hlow (by assumption)
    refine WLr 3 [(60, .bool (decide (((64 * (j : Int)) + (tz (~~~ (BitVec.ofInt 64 e87)) : Int)) < 8064))), (59, .bool (decide (((64 * (j : Int)) + (tz (~~~ (BitVec.ofInt 64 e87)) : Int)) < 8064))), (58, .int .i64 ((64 * (j : Int)) + (tz (~~~ (BitVec.ofInt 64 e87)) : Int)))] (fun _ => by kernel_rfl) (WLd rfl (QXn (hK95 _ _ ?_)))
    refine WC.know 60 (.bool (decide (((64 * (j : Int)) + (tz (~~~ (BitVec.ofInt 64 e87)) : Int)) < 8064))) (.bool true) rfl (congrArg Value.bool (by exact decide_eq_true (by omega))) ?_
    refine WCt rfl ?_
    refine WCs (fun K97 hK98 => ?_)
    refine WCg (WLr 2 [(62, .int .i64 (IntKind.i64.wrap (((64 * (j : Int)) + (tz (~~~ (BitVec.ofInt 64 e87)) : Int)) * 8))), (61, .int .i64 ((64 * (j : Int)) + (tz (~~~ (BitVec.ofInt 64 e87)) : Int)))] (fun _ => by kernel_rfl) ?_)
    refine WLt (show (.int .i64 (IntKind.i64.wrap (((64 * (j : Int)) + (tz (~~~ (BitVec.ofInt 64 e87)) : Int)) * 8)) : Value) = .int .i64 (((64 * (j : Int)) + (tz (~~~ (BitVec.ofInt 64 e87)) : Int)) * 8) from by rw [wrap_in_i64 (((64 * (j : Int)) + (tz (~~~ (BitVec.ofInt 64 e87)) : Int)) * 8) (by omega) (by omega)]) ?_
    refine WLr 1 [(63, .int .i64 (IntKind.i64.wrap (1024 + (((64 * (j : Int)) + (tz (~~~ (BitVec.ofInt 64 e87)) : Int)) * 8))))] (fun _ => by kernel_rfl) ?_
    refine WLt (show (.int .i64 (IntKind.i64.wrap (1024 + (((64 * (j : Int)) + (tz (~~~ (BitVec.ofInt 64 e87)) : Int)) * 8))) : Value) = .int .i64 (1024 + (((64 * (j : Int)) + (tz (~~~ (BitVec.ofInt 64 e87)) : Int)) * 8)) from by rw [wrap_in_i64 (1024 + (((64 * (j : Int)) + (tz (~~~ (BitVec.ofInt 64 e87)) : Int)) * 8)) (by omega) (by omega)]) ?_
    refine WLr 2 [(7, .bool true), (6, .int .i64 (1024 + (((64 * (j : Int)) + (tz (~~~ (BitVec.ofInt 64 e87)) : Int)) * 8)))] (fun _ => by kernel_rfl) (WLd rfl (QXn (hK98 _ _ ?_)))
    refine WC.ret ?_
    refine QXk ?_
    refine QXr ?_
    refine QXr ?_
    refine QXk ?_
    refine QXr ?_
    refine (hret _ _ _ rfl ?_).1
    exact ⟨congrArg Ending.returned (ret_free hfree_ (by omega)), hC93.fr⟩
   ·
    have t96 : e87 = 18446744073709551615 := by simpa using t96b
    refine WLr 3 [(60, .bool false), (59, undef), (58, undef)] (fun _ => by kernel_rfl) (WLd rfl (QXn (hK95 _ _ ?_)))
    refine WCf rfl (WC.skip ?_)
    refine QXb ?_
    refine QXn (hK84 _ _ ?_)
    refine WCg (WLr 1 [(64, .int .i64 (IntKind.i64.wrap ((j : Int) + 1)))] (fun _ => by kernel_rfl) ?_)
    refine WLt (show (.int .i64 (IntKind.i64.wrap ((j : Int) + 1)) : Value) = .int .i64 ((j : Int) + 1) from by rw [wrap_in_i64 ((j : Int) + 1) (by omega) (by omega)]) ?_
    refine WLr 1 [(45, .int .i64 ((j : Int) + 1))] (fun _ => by kernel_rfl) ?_
    refine WLd rfl ?_
    refine QXn ?_
    have hC99 := hC93.pick [0] [] rfl rfl
    refine fun a_ ha_ => hK73 _ _ _ ?_ ⟨j + 1, rfl, rfl, hC99, by omega, free_next hbits2 (by rw [he88]; exact congrArg some (by simpa using t96b)) hlow⟩ a_ (ha_.weaken (sub_of ⟨rfl, rfl, rfl, rfl, rfl, rfl, rfl, rfl, rfl, rfl, trivial⟩))
    omega
  ·
   have t82 : (126 : Int) ≤ (j : Int) := by have q_ := of_decide_eq_false t82b; omega
   refine WCf rfl ?_
   refine WC.exit ?_
   refine QXe ?_
   refine QXe ?_
   refine QX.block_hit ?_
   refine QXn (hK69 _ _ ?_)
   refine WCs (fun K100 hK101 => ?_)
   refine WCg (WLr 2 [(7, .bool false), (6, .int .i64 0)] (fun _ => by kernel_rfl) (WLd rfl (QXn (hK101 _ _ ?_))))
   refine WC.ret ?_
   refine (hret _ _ _ rfl ?_).1
   exact ⟨congrArg Ending.returned (ret_free0 (free_none (fun n hn => hlow n (by omega)))), hC77.fr⟩

end Go.Proofs.YtfligklljkcbfaaDoor
