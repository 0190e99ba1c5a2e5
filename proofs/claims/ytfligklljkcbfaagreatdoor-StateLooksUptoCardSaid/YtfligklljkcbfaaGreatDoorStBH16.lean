/- Contracts of functions of the program, each proved by a walk through its code; conditions stand in the statements. -/
import Derived.Test.YtfligklljkcbfaaGreatDoorStBC16
import Derived.Test.YtfligklljkcbfaaGreatDoorStBD16
import Derived.Test.YtfligklljkcbfaaGreatDoorStBF16
import Derived.Sort.AssemblyPlain
namespace Go.Proofs.YtfligklljkcbfaaGreatDoor
set_option linter.unusedSimpArgs false
set_option linter.unusedVariables false
set_option linter.unusedSectionVars false
open Go Go.RowKit Go.Tw
set_option linter.unusedVariables false
set_option maxRecDepth 20000
open Go.Sort
def FinS (a b a2 b2 : Nat) (xs L : List Int) : Prop := ∀ R, PermIn a2 b2 (aOf L) R → SortedIn ltInt a2 b2 R → PermIn a b (aOf xs) R ∧ SortedIn ltInt a b R
theorem fin_refl (a b : Nat) (xs : List Int) : FinS a b a b xs xs := fun _ h1 h2 => ⟨h1, h2⟩
theorem fin_perm {a b a2 b2 : Nat} {xs L M : List Int} (h : FinS a b a2 b2 xs L) (hp : PermIn a2 b2 (aOf L) (aOf M)) : FinS a b a2 b2 xs M := fun R h1 h2 => h R (permIn_trans _ _ _ _ _ hp h1) h2
theorem bel_perm {a b : Nat} {L M : List Int} (h : Below ltInt a b (aOf L)) (hb : b ≤ L.length) (hp : PermIn a b (aOf L) (aOf M)) : Below ltInt a b (aOf M) := h.perm (by rw [aSize]; exact hb) hp
theorem fin_ins {a b a2 b2 : Nat} {xs L M : List Int} (h : FinS a b a2 b2 xs L) (hab : a2 ≤ b2) (hb : b2 ≤ L.length) (e : aOf M = insertionSort ltInt (aOf L) a2 b2) : PermIn a b (aOf xs) (aOf M) ∧ SortedIn ltInt a b (aOf M) := by
  have h1 := insertionSort_holds swo_ltInt (aOf L) a2 b2 hab (by rw [aSize]; exact hb)
  rw [← e] at h1; exact h _ h1.1 h1.2
theorem fin_heap {a b a2 b2 : Nat} {xs L M : List Int} (h : FinS a b a2 b2 xs L) (hab : a2 ≤ b2) (hb : b2 ≤ L.length) (e : aOf M = heapSort ltInt (aOf L) a2 b2) : PermIn a b (aOf xs) (aOf M) ∧ SortedIn ltInt a b (aOf M) := by
  have h1 := heapSort_holds swo_ltInt (aOf L) a2 b2 hab (by rw [aSize]; exact hb)
  rw [← e] at h1; exact h _ h1.1 h1.2
theorem perm_rev {a2 b2 : Nat} {L M N : List Int} (h : PermIn a2 b2 (aOf L) (aOf M)) (hab : a2 ≤ b2) (hb : b2 ≤ M.length) (e : aOf N = reverseRange (aOf M) a2 b2) : PermIn a2 b2 (aOf L) (aOf N) := by
  have h1 := reverseRange_holds (aOf M) a2 b2 hab (by rw [aSize]; exact hb)
  rw [← e] at h1; exact permIn_trans _ _ _ _ _ h h1
theorem pins_all {a2 b2 : Nat} {M N : List Int} (hab : a2 < b2) (hb : b2 ≤ M.length) (hB : Below ltInt a2 b2 (aOf M)) (e : aOf N = (partialInsertionSort ltInt (aOf M) a2 b2).1) : PermIn a2 b2 (aOf M) (aOf N) ∧ ((partialInsertionSort ltInt (aOf M) a2 b2).2 = true → SortedIn ltInt a2 b2 (aOf N)) := by
  have h1 := partialInsertionSort_holds swo_ltInt (aOf M) a2 b2 hab (by rw [aSize]; exact hb) hB
  rw [← e] at h1; exact h1
theorem fin_eq {a b a2 b2 pv : Nat} {xs L N : List Int} {x y : Int} (h : FinS a b a2 b2 xs L) (h0 : 0 < a2) (hp1 : a2 ≤ pv) (hp2 : pv < b2) (hb : b2 ≤ L.length) (hB : Below ltInt a2 b2 (aOf L)) (hx : L[a2 - 1]? = some x) (hy : L[pv]? = some y) (hlt : decide (x < y) = false) (e : aOf N = (partitionEqual ltInt (aOf L) a2 b2 pv).2) :
    (a2 < (partitionEqual ltInt (aOf L) a2 b2 pv).1 ∧ (partitionEqual ltInt (aOf L) a2 b2 pv).1 ≤ b2) ∧ Below ltInt (partitionEqual ltInt (aOf L) a2 b2 pv).1 b2 (aOf N) ∧ FinS a b (partitionEqual ltInt (aOf L) a2 b2 pv).1 b2 xs N := by
  obtain ⟨h1, h2, _, h4, h5⟩ := round_eq swo_ltInt (partitionEqual_holds _) h0 hp1 hp2 (by rw [aSize]; exact hb) hB (by rw [aGet hx, aGet hy]; exact hlt) (show partitionEqual ltInt (aOf L) a2 b2 pv = ((partitionEqual ltInt (aOf L) a2 b2 pv).1, aOf N) from Prod.ext rfl e.symm)
  exact ⟨⟨h1, h2⟩, h4, fun R hR hs => h R (h5 R hR hs).1 (h5 R hR hs).2⟩
theorem fin_part {a b a2 b2 pv mid : Nat} {xs L N : List Int} (h : FinS a b a2 b2 xs L) (hp1 : a2 ≤ pv) (hp2 : pv < b2) (hb : b2 ≤ L.length) (hB : Below ltInt a2 b2 (aOf L)) (hm : (partition ltInt (aOf L) a2 b2 pv).1 = mid) (e : aOf N = (partition ltInt (aOf L) a2 b2 pv).2.2) :
    (a2 ≤ mid ∧ mid < b2) ∧ Below ltInt a2 mid (aOf N) ∧ Below ltInt (mid + 1) b2 (aOf N) ∧
    (∀ M : List Int, PermIn a2 mid (aOf N) (aOf M) ∧ SortedIn ltInt a2 mid (aOf M) → Below ltInt (mid + 1) b2 (aOf M) ∧ FinS a b (mid + 1) b2 xs M) ∧
    (∀ M : List Int, PermIn (mid + 1) b2 (aOf N) (aOf M) ∧ SortedIn ltInt (mid + 1) b2 (aOf M) → Below ltInt a2 mid (aOf M) ∧ FinS a b a2 mid xs M) := by
  obtain ⟨h1, h2, _, h4, h5, h6, h7⟩ := round_part swo_ltInt (partition_holds _) (ap := (partition ltInt (aOf L) a2 b2 pv).2.1) hp1 hp2 (by rw [aSize]; exact hb) hB (show partition ltInt (aOf L) a2 b2 pv = (mid, (partition ltInt (aOf L) a2 b2 pv).2.1, aOf N) from Prod.ext hm (Prod.ext rfl e.symm))
  refine ⟨⟨h1, h2⟩, h4, h5, fun M hM => ?_, fun M hM => ?_⟩
  · obtain ⟨q1, q2⟩ := h6 _ hM.1 hM.2; exact ⟨q1, fun R hR hs => h R (q2 R hR hs).1 (q2 R hR hs).2⟩
  · obtain ⟨q1, q2⟩ := h7 _ hM.1 hM.2; exact ⟨q1, fun R hR hs => h R (q2 R hR hs).1 (q2 R hR hs).2⟩
def PdqC (k : Nat) : Prop := ∀ (A : Option Addr) (c n : Nat) (xs : List Int), xs.length = n → ∀ (a b : Nat) (lim : Int) (w : World), w.ownsRow 0 40 1 (.slice A n c) n (xs.flatMap (Go.Tw.encI .u32)) → n ≤ 1099511627776 → a ≤ b → b ≤ n → b - a ≤ k → Below ltInt a b (aOf xs) →
  Calls Tryz.prog 73 #[.slice A n c, .int .i64 (a : Int), .int .i64 (b : Int), .int .i64 lim] w fun e w' => ∃ ys : List Int, e = .returned (.tuple #[]) ∧ Fr w w' (blk (.slice A n c)) ∧ w'.ownsRow 0 40 1 (.slice A n c) n (ys.flatMap (Go.Tw.encI .u32)) ∧ (PermIn a b (aOf xs) (aOf ys) ∧ SortedIn ltInt a b (aOf ys))
theorem blk_oneS {A : Option Addr} {n c b off : Nat} (h : A = some ⟨b, off, none⟩) : b ∈ blk (.slice A n c) := by subst h; simp [blk, Value.ownBlock]
set_option maxHeartbeats 2000000 in
theorem pdq_step (k : Nat) (IH : ∀ j, j < k → PdqC j) (A : Option Addr) (c : Nat) (xs : List Int) (a b : Nat) (lim : Int)  (w : World) (hown : w.ownsRow 0 40 1 (.slice A xs.length c) xs.length (xs.flatMap (Go.Tw.encI .u32))) (hlen : xs.length ≤ 1099511627776) (hab : a ≤ b) (hb : b ≤ xs.length) (hk : b - a ≤ k) (hB : Below ltInt a b (aOf xs)) : Calls Tryz.prog 73 #[.slice A xs.length c, I6 (a : Int), I6 (b : Int), I6 lim] w fun e w' => ∃ ys : List Int, e = .returned (.tuple #[]) ∧ Fr w w' (blk (.slice A xs.length c)) ∧ w'.ownsRow 0 40 1 (.slice A xs.length c) xs.length (ys.flatMap (Go.Tw.encI .u32)) ∧ (PermIn a b (aOf xs) (aOf ys) ∧ SortedIn ltInt a b (aOf ys)) := by
 refine enterD (n := 134) Tryz.func73 rfl rfl (Nat.le_of_ble_eq_true rfl) ?_
 intro Q0 hN hret hret'
 have hcc_ := own_le hown
 have hC := Cx.start1 w (own_lt hown)
 have hLs_ := own_count (Go.Tw.encI_len .u32) (by decide) hown
 refine WCs (fun K1 hK2 => WCg (WLq 1 [(8, .bool true)] (WLd rfl (QXn (hK2 _ _ (WCs (fun K3 hK4 => WCg (WLq 1 [(9, .bool true)] (WLd rfl (QXn (hK4 _ _ (WC.block (WC.loop (fun m_ E_ w_ => ∃ (a2 b2 : Nat) (lim2 : Int) (L : List Int) (wb wp : Bool), m_ = b2 - a2 ∧ E_ = [(0, .slice A xs.length c), (1, I6 (a2 : Int)), (2, I6 (b2 : Int)), (3, I6 lim2), (8, .bool wb), (9, .bool wp)] ∧ Cx w (blk (.slice A xs.length c)) w_ [] [blk (.slice A xs.length c)] ∧ World.ownsRow w_ 0 40 1 (.slice A xs.length c) xs.length (L.flatMap (Go.Tw.encI .u32)) ∧ ((a2 ≤ b2 ∧ b2 ≤ xs.length ∧ b2 - a2 ≤ b - a) ∧ L.length = xs.length ∧ Below ltInt a2 b2 (aOf L) ∧ FinS a b a2 b2 xs L)) ⟨_, _, ⟨a, b, lim, xs, true, true, rfl, rfl, hC, hown, ⟨hab, hb, Nat.le_refl _⟩, rfl, hB, fin_refl _ _ _⟩, sub_of ⟨rfl, rfl, rfl, rfl, rfl, rfl, trivial⟩⟩ (fun m8 E_ w9 K5 hK6 hI7 => ?_))))))))))))))
 obtain ⟨a2, b2, lim2, L, wb, wp, rfl, rfl, aw, hrow, ⟨hi1, hi2, hi3⟩, hL, hbel, hfin⟩ := hI7
 refine WC.block (WCs (fun cR aS => WCg (WLz 3 [(21, I6 (IntKind.i64.wrap ((b2 : Int) - (a2 : Int))))] (WLt (show (I6 (IntKind.i64.wrap ((b2 : Int) - (a2 : Int))) : Value) = I6 ((b2 - a2 : Nat) : Int) from by rw [wrap_in_i64 _ (by omega) (by omega)] <;> first | rfl | (congr 1; done) | (congr 1; omega)) (WLq 1 [(10, I6 ((b2 - a2 : Nat) : Int))] (WLd rfl (QXn (aS _ _ ?_))))))))
 refine WCs (fun cS aT => WCs (fun cT aU => WCg (WLz 2 [(23, .bool (decide (((b2 - a2 : Nat) : Int) ≤ 12)))] (WLd rfl (QXn (aU _ _ (WCa 23 (decide (((b2 - a2 : Nat) : Int) ≤ 12)) rfl (fun aL => ?_) (fun aL => ?_))))))))
 ·
  have co : ((b2 - a2 : Nat) : Int) ≤ 12 := by have q_ := of_decide_eq_true aL; omega
  refine WCt rfl (WCs (fun cU bK => WCg (WLq 3 [(26, I6 (b2 : Int)), (25, I6 (a2 : Int)), (24, .slice A xs.length c)] (WLk (ins_n A c xs.length L (own_count (Go.Tw.encI_len .u32) (by decide) hrow) a2 b2 w9 hrow hlen (by omega) (by omega)) ?_))))
  rintro _ cV ⟨ys21, rfl, bL, aM, bM⟩
  have bN := aw.callF 0 rfl bL (fun _ h_ => .inl h_) (own_lt aM)
  have cp := own_count (Go.Tw.encI_len .u32) (by decide) aM
  refine ⟨_, rfl, ?_⟩
  refine WLd rfl (QXn (bK _ _ (WC.ret (QXr (QXk (QXr (QXk ?_)))))))
  refine (hret _ _ _ rfl ?_).1
  exact ⟨_, rfl, bN.fr, aM, fin_ins hfin (by omega) (by omega) bM⟩
 ·
  have co : (12 : Int) < ((b2 - a2 : Nat) : Int) := by have q_ := of_decide_eq_false aL; omega
  refine WCf rfl (WC.skip (QXn (aT _ _ (WCs (fun cW aV => WCs (fun cX aW => WCg (WLz 2 [(29, .bool (lim2 == 0))] (WLd rfl (QXn (aW _ _ (WCa 29 (lim2 == 0) rfl (fun aN => ?_) (fun aN => ?_))))))))))))
  ·
   have cq : lim2 = 0 := by simpa using aN
   refine WCt rfl (WCs (fun cY bO => WCg (WLq 3 [(32, I6 (b2 : Int)), (31, I6 (a2 : Int)), (30, .slice A xs.length c)] (WLk (heap_n A c xs.length L (own_count (Go.Tw.encI_len .u32) (by decide) hrow) a2 b2 w9 hrow hlen (by omega) (by omega)) ?_))))
   rintro _ cZ ⟨ys35, rfl, bP, aO, bQ⟩
   have bR := aw.callF 0 rfl bP (fun _ h_ => .inl h_) (own_lt aO)
   have cr := own_count (Go.Tw.encI_len .u32) (by decide) aO
   refine ⟨_, rfl, ?_⟩
   refine WLd rfl (QXn (bO _ _ (WC.ret (QXr (QXk (QXr (QXk ?_)))))))
   refine (hret _ _ _ rfl ?_).1
   exact ⟨_, rfl, bR.fr, aO, fin_heap hfin (by omega) (by omega) bQ⟩
  ·
   have cq : ¬ (lim2 = 0) := by simpa using aN
   refine WCf rfl (WC.skip (QXn (aV _ _ (WC.seqI (fun E_ w_ => ∃ (L1 : List Int) (lim1 : Int), E_ = [(0, .slice A xs.length c), (1, I6 (a2 : Int)), (2, I6 (b2 : Int)), (3, I6 lim1), (8, .bool wb), (9, .bool wp), (10, I6 ((b2 - a2 : Nat) : Int))] ∧ Cx w (blk (.slice A xs.length c)) w_ [] [blk (.slice A xs.length c)] ∧ World.ownsRow w_ 0 40 1 (.slice A xs.length c) xs.length (L1.flatMap (Go.Tw.encI .u32)) ∧ (L1.length = xs.length ∧ PermIn a2 b2 (aOf L) (aOf L1))) (fun c0 aX => ?_) ?_))))
   ·
    refine WCs (fun c1 bS => WCg (WLz 2 [(35, .bool !wb)] (WLd rfl (QXn (bS _ _ (WCa 35 (!wb) rfl (fun ak => ?_) (fun ak => ?_)))))))
    ·
     have cs : wb = false := by first | (simpa only [Bool.not_eq_true', Bool.not_eq_false'] using ak) | simpa using ak
     refine WCt rfl (WCs (fun c2 bT => WCg (WLq 3 [(38, I6 (b2 : Int)), (37, I6 (a2 : Int)), (36, .slice A xs.length c)] (WLk (brk_n A c xs.length L (own_count (Go.Tw.encI_len .u32) (by decide) hrow) a2 b2 w9 hrow hlen (by omega) (by omega)) ?_))))
     rintro _ c3 ⟨ys52, rfl, bU, ax, bV⟩
     have bW := aw.callF 0 rfl bU (fun _ h_ => .inl h_) (own_lt ax)
     have ct := own_count (Go.Tw.encI_len .u32) (by decide) ax
     refine ⟨_, rfl, ?_⟩
     refine WLd rfl (QXn (bT _ _ (WCg (WLz 3 [(3, I6 (IntKind.i64.wrap (lim2 - 1)))] (WLd rfl (QXn ?_))))))
     have bX := bW.pickM [] [0] (by decide) rfl rfl
     exact fun a_ ha_ => aX _ _ ⟨ys52, (IntKind.i64.wrap (lim2 - 1)), rfl, bX, ax, (own_count (Go.Tw.encI_len .u32) (by decide) ax), bV⟩ a_ (ha_.weaken (sub_of ⟨rfl, rfl, rfl, rfl, rfl, rfl, rfl, trivial⟩))
    ·
     have cs : wb = true := by first | (simpa only [Bool.not_eq_true', Bool.not_eq_false'] using ak) | simpa using ak
     refine WCf rfl (WC.skip (QXn ?_))
     have bY := aw.pickM [] [0] (by decide) rfl rfl
     exact fun a_ ha_ => aX _ _ ⟨L, lim2, rfl, bY, hrow, hL, permIn_refl _ _ _⟩ a_ (ha_.weaken (sub_of ⟨rfl, rfl, rfl, rfl, rfl, rfl, rfl, trivial⟩))
   rintro E_ cu ⟨L1, lim1, rfl, bZ, hrow1, hL1, hp1⟩
   refine WCs (fun c4 aY => WCg (WLq 3 [(45, I6 (b2 : Int)), (44, I6 (a2 : Int)), (43, .slice A xs.length c)] (WLk (piv_n A c xs.length L1 hL1 a2 b2 cu (own_rd hrow1 (Go.Tw.encI_len _) (by decide)) hlen (fun b_ off_ e_ => own_lt hrow1 b_ (blk_oneS e_)) (by omega) (by omega)) ?_)))
   rintro _ cv ⟨q, hh, rfl, aZ, hq1, hq2⟩
   have a0 := bZ.call aZ
   refine ⟨_, rfl, ?_⟩
   have aP := own_fr hrow1 aZ (by simp)
   refine WLz 5 [(12, I6 hh), (11, I6 (q : Int))] (WLd rfl (QXn (aY _ _ (WC.seqI (fun E_ w_ => ∃ (L2 : List Int) (pv : Nat) (h2 : Int), E_ = [(0, .slice A xs.length c), (1, I6 (a2 : Int)), (2, I6 (b2 : Int)), (3, I6 lim1), (8, .bool wb), (9, .bool wp), (10, I6 ((b2 - a2 : Nat) : Int)), (11, I6 (pv : Int)), (12, I6 h2)] ∧ Cx w (blk (.slice A xs.length c)) w_ [] [blk (.slice A xs.length c)] ∧ World.ownsRow w_ 0 40 1 (.slice A xs.length c) xs.length (L2.flatMap (Go.Tw.encI .u32)) ∧ (L2.length = xs.length ∧ PermIn a2 b2 (aOf L) (aOf L2) ∧ (a2 ≤ pv ∧ pv < b2))) (fun c5 a1 => ?_) ?_))))
   ·
    refine WCs (fun c6 b0 => WCg (WLz 2 [(50, .bool (hh == 2))] (WLd rfl (QXn (b0 _ _ (WCa 50 (hh == 2) rfl (fun aQ => ?_) (fun aQ => ?_)))))))
    ·
     have cw : hh = 2 := by simpa using aQ
     refine WCt rfl (WCs (fun c7 b1 => WCg (WLq 3 [(53, I6 (b2 : Int)), (52, I6 (a2 : Int)), (51, .slice A xs.length c)] (WLk (rev_n A c xs.length L1 (own_count (Go.Tw.encI_len .u32) (by decide) aP) a2 b2 cv aP hlen (by omega) (by omega)) ?_))))
     rintro _ c8 ⟨ys78, rfl, b3, ay, b4⟩
     have b5 := a0.callF 0 rfl b3 (fun _ h_ => .inl h_) (own_lt ay)
     have cx := own_count (Go.Tw.encI_len .u32) (by decide) ay
     refine ⟨_, rfl, ?_⟩
     refine WLd rfl (QXn (b1 _ _ (WCs (fun c9 b6 => WCg (WLz 2 [(56, I6 (IntKind.i64.wrap ((b2 : Int) - 1)))] (WLt (show (I6 (IntKind.i64.wrap ((b2 : Int) - 1)) : Value) = I6 ((b2 - 1 : Nat) : Int) from by rw [wrap_in_i64 _ (by omega) (by omega)] <;> first | rfl | (congr 1; done) | (congr 1; omega)) (WLz 3 [(59, I6 (IntKind.i64.wrap ((q : Int) - (a2 : Int))))] ?_)))))))
     refine WLt (show (I6 (IntKind.i64.wrap ((q : Int) - (a2 : Int))) : Value) = I6 ((q - a2 : Nat) : Int) from by rw [wrap_in_i64 _ (by omega) (by omega)] <;> first | rfl | (congr 1; done) | (congr 1; omega)) (WLq 1 [(60, I6 (IntKind.i64.wrap (((b2 - 1 : Nat) : Int) - ((q - a2 : Nat) : Int))))] (WLt (show (I6 (IntKind.i64.wrap (((b2 - 1 : Nat) : Int) - ((q - a2 : Nat) : Int))) : Value) = I6 ((b2 - 1 - (q - a2) : Nat) : Int) from by rw [wrap_in_i64 _ (by omega) (by omega)] <;> first | rfl | (congr 1; done) | (congr 1; omega)) (WLq 1 [(11, I6 ((b2 - 1 - (q - a2) : Nat) : Int))] (WLd rfl (QXn (b6 _ _ (WCg (WLq 1 [(12, I6 1)] (WLd rfl ?_)))))))))
     refine QXn ?_
     have b7 := b5.pickM [] [0] (by decide) rfl rfl
     exact fun a_ ha_ => a1 _ _ ⟨ys78, (b2 - 1 - (q - a2)), 1, rfl, b7, ay, (own_count (Go.Tw.encI_len .u32) (by decide) ay), perm_rev hp1 (by omega) (by omega) b4, ⟨by omega, by omega⟩⟩ a_ (ha_.weaken (sub_of ⟨rfl, rfl, rfl, rfl, rfl, rfl, rfl, rfl, rfl, trivial⟩))
    ·
     have cw : ¬ (hh = 2) := by simpa using aQ
     refine WCf rfl (WC.skip (QXn ?_))
     have b8 := a0.pickM [] [0] (by decide) rfl rfl
     exact fun a_ ha_ => a1 _ _ ⟨L1, q, hh, rfl, b8, aP, hL1, hp1, ⟨by omega, by omega⟩⟩ a_ (ha_.weaken (sub_of ⟨rfl, rfl, rfl, rfl, rfl, rfl, rfl, rfl, rfl, trivial⟩))
   rintro E_ cy ⟨L2, pv, h2, rfl, az, hrow2, hL2, hp2, ⟨hv1, hv2⟩⟩
   refine WC.seqI (fun E_ w_ => ∃ (L3 : List Int), E_ = [(0, .slice A xs.length c), (1, I6 (a2 : Int)), (2, I6 (b2 : Int)), (3, I6 lim1), (8, .bool wb), (9, .bool wp), (10, I6 ((b2 - a2 : Nat) : Int)), (11, I6 (pv : Int))] ∧ Cx w (blk (.slice A xs.length c)) w_ [] [blk (.slice A xs.length c)] ∧ World.ownsRow w_ 0 40 1 (.slice A xs.length c) xs.length (L3.flatMap (Go.Tw.encI .u32)) ∧ (L3.length = xs.length ∧ PermIn a2 b2 (aOf L) (aOf L3))) (fun da al => ?_) ?_
   ·
    refine WCs (fun db aA => WCg (WLz 2 [(62, .bool wb)] (WLa 62 (wb) rfl (fun b9 => ?_) (fun b9 => ?_))))
    ·
     refine WLz 3 [(65, .bool wp)] (WLa 65 (wp) rfl (fun ca => ?_) (fun ca => ?_))
     ·
      refine WLz 3 [(68, .bool (h2 == 1))] (WLd rfl (QXn (aA _ _ (WCa 68 (h2 == 1) rfl (fun aR => ?_) (fun aR => ?_)))))
      ·
       have cz : h2 = 1 := by simpa using aR
       refine WCt rfl (WCs (fun dc a3 => WCg (WLq 3 [(71, I6 (b2 : Int)), (70, I6 (a2 : Int)), (69, .slice A xs.length c)] (WLk (pins_n A c xs.length L2 (own_count (Go.Tw.encI_len .u32) (by decide) hrow2) a2 b2 cy hrow2 hlen (by omega) (by omega)) ?_))))
       rintro _ cA ⟨ys101, rfl, a4, ad, aB⟩
       have aC := az.callF 0 rfl a4 (fun _ h_ => .inl h_) (own_lt ad)
       have ch := own_count (Go.Tw.encI_len .u32) (by decide) ad
       refine ⟨_, rfl, ?_⟩
       refine WLd rfl (QXn (a3 _ _ (WCa 72 ((partialInsertionSort ltInt (aOf L2) a2 b2).2) rfl (fun aD => ?_) (fun aD => ?_))))
       ·
        refine WCt rfl (WC.ret (QXr (QXk (QXr (QXk ?_)))))
        refine (hret _ _ _ rfl ?_).1
        clear hN hret hret' a3 aA al aY aW aV aU aT aS hK4 hK2
        have hpa_ := pins_all (by omega) (by omega) (bel_perm hbel (by omega) hp2) aB
        exact ⟨_, rfl, aC.fr, ad, fin_perm hfin hp2 _ hpa_.1 (hpa_.2 aD)⟩
       ·
        refine WCf rfl (WC.skip (QXn ?_))
        have a5 := aC.pickM [] [0] (by decide) rfl rfl
        exact fun a_ ha_ => al _ _ ⟨ys101, rfl, a5, ad, (own_count (Go.Tw.encI_len .u32) (by decide) ad), permIn_trans _ _ _ _ _ hp2 (pins_all (by omega) (by omega) (bel_perm hbel (by omega) hp2) aB).1⟩ a_ (ha_.weaken (sub_of ⟨rfl, rfl, rfl, rfl, rfl, rfl, rfl, rfl, trivial⟩))
      ·
       have cz : ¬ (h2 = 1) := by simpa using aR
       refine WCf rfl (WC.skip (QXn ?_))
       have a6 := az.pickM [] [0] (by decide) rfl rfl
       exact fun a_ ha_ => al _ _ ⟨L2, rfl, a6, hrow2, hL2, hp2⟩ a_ (ha_.weaken (sub_of ⟨rfl, rfl, rfl, rfl, rfl, rfl, rfl, rfl, trivial⟩))
     ·
      refine WLz 3 [(68, .bool false)] (WLd rfl (QXn (aA _ _ (WCf rfl (WC.skip (QXn ?_))))))
      have a7 := az.pickM [] [0] (by decide) rfl rfl
      exact fun a_ ha_ => al _ _ ⟨L2, rfl, a7, hrow2, hL2, hp2⟩ a_ (ha_.weaken (sub_of ⟨rfl, rfl, rfl, rfl, rfl, rfl, rfl, rfl, trivial⟩))
    ·
     refine WLz 6 [(68, .bool false)] (WLd rfl (QXn (aA _ _ (WCf rfl (WC.skip (QXn ?_))))))
     have a8 := az.pickM [] [0] (by decide) rfl rfl
     exact fun a_ ha_ => al _ _ ⟨L2, rfl, a8, hrow2, hL2, hp2⟩ a_ (ha_.weaken (sub_of ⟨rfl, rfl, rfl, rfl, rfl, rfl, rfl, rfl, trivial⟩))
   rintro E_ dd ⟨L3, rfl, cb, hrow3, hL3, hp3⟩
   have hfin3 := fin_perm hfin hp3
   have hbel3 := bel_perm hbel (by omega) hp3
   refine WC.seqI (fun E_ w_ => E_ = [(0, .slice A xs.length c), (1, I6 (a2 : Int)), (2, I6 (b2 : Int)), (3, I6 lim1), (8, .bool wb), (9, .bool wp), (10, I6 ((b2 - a2 : Nat) : Int)), (11, I6 (pv : Int))] ∧ Cx w (blk (.slice A xs.length c)) w_ [] [blk (.slice A xs.length c)] ∧ World.ownsRow w_ 0 40 1 (.slice A xs.length c) xs.length (L3.flatMap (Go.Tw.encI .u32)) ∧ (True)) (fun cB aE => ?_) ?_
   ·
    refine WCs (fun cC aF => WC.drawC cb [] (by kernel_rfl) (fun cc a9 aG aa => ?_))
    have ab := own_fr hrow3 a9 (by simp)
    refine WDx 3 [(0, 73, I6 (a2 : Int)), (1, 74, .bool (decide ((a2 : Int) > 0))), (2, 75, .bool (decide ((a2 : Int) > 0)))] aa (WDa 75 (decide ((a2 : Int) > 0)) rfl (fun am => ?_) (fun am => ?_))
    ·
     have cd : (0 : Int) < (a2 : Int) := by have q_ := of_decide_eq_true am; omega
     refine WDx 3 [(3, 76, .slice A xs.length c), (4, 77, I6 (a2 : Int)), (5, 78, I6 (IntKind.i64.wrap ((a2 : Int) - 1)))] aa (WD.recast (show (I6 (IntKind.i64.wrap ((a2 : Int) - 1)) : Value) = I6 ((a2 - 1 : Nat) : Int) from by rw [wrap_in_i64 _ (by omega) (by omega)] <;> first | rfl | (congr 1; done) | (congr 1; omega)) ?_)
     have ci := own_count (Go.Tw.encI_len _) (by decide) ab
     obtain ⟨af, an⟩ := get_some (xs := L3) (i := (a2 - 1)) (by omega)
     obtain ⟨b127, aH⟩ := own_addr (by decide) (Go.Tw.encI_len _) ab an
     refine WDi (NPt (NPt (NPb (NPt (NPb hN))))) 6 A xs.length c 79 .i64 ((a2 - 1 : Nat) : Int) b127 0 (a2 - 1) 1 (by kernel_rfl) (by kernel_rfl) aH (by omega) (by omega) (a2 - 1) (by first | (simp; done) | omega) aa (WDx 2 [(8, 81, .slice A xs.length c), (9, 82, I6 (pv : Int))] aa ?_)
     have cj := own_count (Go.Tw.encI_len _) (by decide) ab
     obtain ⟨ag, ao⟩ := get_some (xs := L3) (i := pv) (by omega)
     obtain ⟨b132, aI⟩ := own_addr (by decide) (Go.Tw.encI_len _) ab ao
     refine WDi (NPt (NPt (NPb (NPt (NPb hN))))) 10 A xs.length c 83 .i64 (pv : Int) b132 0 pv 1 (by kernel_rfl) (by kernel_rfl) aI (by omega) (by omega) pv (by first | (simp; done) | omega) aa (WDm 7 40 (P0 b127 (a2 - 1)) (U4 af) 80 (fun _ hS_ => run_load1 rfl (by simpa [Nat.add_assoc] using Rd.cell (own_rd (own_fr ab hS_ (by simp)) (Go.Tw.encI_len _) (by decide)) aH an 0 _ rfl)) aa (WDm 11 40 (P0 b132 pv) (U4 ag) 84 (fun _ hS_ => run_load1 rfl (by simpa [Nat.add_assoc] using Rd.cell (own_rd (own_fr ab hS_ (by simp)) (Go.Tw.encI_len _) (by decide)) aI ao 0 _ rfl)) aa (WDc 12 (Less_ct af ag cc) ?_)))
     rintro _ ce ⟨rfl, aq⟩
     have ar := aa.trans aq (by simp)
     refine ⟨_, rfl, ar, ?_⟩
     have aJ := aG.call aq
     have au := own_fr ab aq (by simp)
     refine WDx 2 [(13, 86, .bool (!(decide (af < ag)))), (14, 87, .bool (!(decide (af < ag))))] ar (WDd (QXn (aF _ _ (WCa 87 (!(decide (af < ag))) rfl (fun ae => ?_) (fun ae => ?_)))))
     ·
      have ba : (decide (af < ag)) = false := by first | (simpa only [Bool.not_eq_true', Bool.not_eq_false'] using ae) | simpa using ae
      refine WCt rfl (WCs (fun cD bb => WCg (WLq 4 [(91, I6 (pv : Int)), (90, I6 (b2 : Int)), (89, I6 (a2 : Int)), (88, .slice A xs.length c)] (WLk (peq_n A c xs.length L3 (own_count (Go.Tw.encI_len .u32) (by decide) au) a2 b2 pv ce au hlen (by omega) (by omega) (by omega)) ?_))))
      rintro _ cE ⟨ys144, rfl, bc, ah, bd⟩
      have be := aJ.callF 0 rfl bc (fun _ h_ => .inl h_) (own_lt ah)
      have ck := own_count (Go.Tw.encI_len .u32) (by decide) ah
      refine ⟨_, rfl, ?_⟩
      obtain ⟨⟨hm1_, hm2_⟩, hbm_, hfm_⟩ := fin_eq hfin3 (by omega) hv1 hv2 (by omega) hbel3 an ao ba bd
      refine WLq 1 [(13, I6 ((partitionEqual ltInt (aOf L3) a2 b2 pv).1 : Int))] (WLd rfl (QXn (bb _ _ (WCs (fun cF bf => WCg (WLz 2 [(1, I6 ((partitionEqual ltInt (aOf L3) a2 b2 pv).1 : Int))] (WLd rfl (QXn (bf _ _ (WC.exit (QXe ?_)))))))))))
      refine QX.block_hit (QXn ?_)
      have bg := be.pick [] [0] rfl rfl
      refine fun a_ ha_ => hK6 _ _ _ ?_ ⟨(partitionEqual ltInt (aOf L3) a2 b2 pv).1, b2, lim1, ys144, wb, wp, rfl, rfl, bg, ah, ⟨by omega, by omega, by omega⟩, (own_count (Go.Tw.encI_len .u32) (by decide) ah), hbm_, hfm_⟩ a_ (ha_.weaken (sub_of ⟨rfl, rfl, rfl, rfl, rfl, rfl, trivial⟩))
      omega
     ·
      have ba : (decide (af < ag)) = true := by first | (simpa only [Bool.not_eq_true', Bool.not_eq_false'] using ae) | simpa using ae
      refine WCf rfl (WC.skip (QXn ?_))
      have bh := aJ.pickM [] [0] (by decide) rfl rfl
      exact fun a_ ha_ => aE _ _ ⟨rfl, bh, au, trivial⟩ a_ (ha_.weaken (sub_of ⟨rfl, rfl, rfl, rfl, rfl, rfl, rfl, rfl, trivial⟩))
    ·
     have cd : (a2 : Int) ≤ 0 := by have q_ := of_decide_eq_false am; omega
     refine WDx 12 [(3, 76, undef), (4, 77, undef), (5, 78, undef), (6, 79, undef), (7, 80, undef), (8, 81, undef), (9, 82, undef), (10, 83, undef), (11, 84, undef), (12, 85, undef), (13, 86, undef), (14, 87, .bool false)] aa (WDd (QXn (aF _ _ (WCf rfl (WC.skip (QXn ?_))))))
     have bi := aG.pickM [] [0] (by decide) rfl rfl
     exact fun a_ ha_ => aE _ _ ⟨rfl, bi, ab, trivial⟩ a_ (ha_.weaken (sub_of ⟨rfl, rfl, rfl, rfl, rfl, rfl, rfl, rfl, trivial⟩))
   rintro E_ cf ⟨rfl, bj, row_m114, bk⟩
   refine WCs (fun cG bl => WCg (WLq 4 [(98, I6 (pv : Int)), (97, I6 (b2 : Int)), (96, I6 (a2 : Int)), (95, .slice A xs.length c)] (WLk (prt_n A c xs.length L3 (own_count (Go.Tw.encI_len .u32) (by decide) row_m114) a2 b2 pv cf row_m114 hlen (by omega) (by omega) (by omega)) ?_)))
   rintro _ bm ⟨ap, ys158, rfl, bn, ac, bo⟩
   have aK := bj.callF 0 rfl bn (fun _ h_ => .inl h_) (own_lt ac)
   have cl := own_count (Go.Tw.encI_len .u32) (by decide) ac
   refine ⟨_, rfl, ?_⟩
   obtain ⟨mid, hmid⟩ : ∃ m_ : Nat, (partition ltInt (aOf L3) a2 b2 pv).1 = m_ := ⟨_, rfl⟩
   refine WLt (show (.tuple #[I6 ((partition ltInt (aOf L3) a2 b2 pv).1 : Int), .bool ap] : Value) = .tuple #[I6 (mid : Int), .bool ap] from by rw [hmid]) ?_
   obtain ⟨⟨hm1_, hm2_⟩, hbl_, hbr_, hfl_, hfr_⟩ := fin_part hfin3 hv1 hv2 (by omega) hbel3 hmid bo
   refine WLz 5 [(15, .bool ap), (14, I6 (mid : Int))] (WLd rfl (QXn (bl _ _ (WCs (fun cH bp => WCg (WLz 2 [(9, .bool ap)] (WLd rfl (QXn (bp _ _ (WCs (fun cI bq => WCg ?_)))))))))))
   refine WLz 3 [(105, I6 (IntKind.i64.wrap ((mid : Int) - (a2 : Int))))] (WLt (show (I6 (IntKind.i64.wrap ((mid : Int) - (a2 : Int))) : Value) = I6 ((mid - a2 : Nat) : Int) from by rw [wrap_in_i64 _ (by omega) (by omega)] <;> first | rfl | (congr 1; done) | (congr 1; omega)) (WLz 3 [(108, I6 (IntKind.i64.wrap ((b2 : Int) - (mid : Int))))] (WLt (show (I6 (IntKind.i64.wrap ((b2 : Int) - (mid : Int))) : Value) = I6 ((b2 - mid : Nat) : Int) from by rw [wrap_in_i64 _ (by omega) (by omega)] <;> first | rfl | (congr 1; done) | (congr 1; omega)) (WLq 2 [(17, I6 ((b2 - mid : Nat) : Int)), (16, I6 ((mid - a2 : Nat) : Int))] (WLd rfl (QXn (bq _ _ (WCs (fun cJ br => ?_)))))))))
   refine WCg (WLz 2 [(110, I6 (IntKind.i64.wrap (Int.tdiv ((b2 - a2 : Nat) : Int) 8)))] (WLt (show (I6 (IntKind.i64.wrap (Int.tdiv ((b2 - a2 : Nat) : Int) 8)) : Value) = I6 (((b2 - a2) / 8 : Nat) : Int) from by rw [Int.tdiv_eq_ediv_of_nonneg (by omega), wrap_in_i64 _ (by omega) (by omega)] <;> first | rfl | (congr 1; done) | (congr 1; omega)) (WLq 1 [(18, I6 (((b2 - a2) / 8 : Nat) : Int))] (WLd rfl (QXn (br _ _ (WCs (fun cK bs => WCg ?_))))))))
   refine WLz 3 [(113, .bool (decide (((mid - a2 : Nat) : Int) < ((b2 - mid : Nat) : Int))))] (WLd rfl (QXn (bs _ _ (WCa 113 (decide (((mid - a2 : Nat) : Int) < ((b2 - mid : Nat) : Int))) rfl (fun av => ?_) (fun av => ?_)))))
   ·
    have cg : ((mid - a2 : Nat) : Int) < ((b2 - mid : Nat) : Int) := by have q_ := of_decide_eq_true av; omega
    refine WCt rfl (WCs (fun cL bt => WCg (WLz 4 [(8, .bool (decide (((mid - a2 : Nat) : Int) ≥ (((b2 - a2) / 8 : Nat) : Int))))] (WLd rfl (QXn (bt _ _ (WCs (fun cM bu => WCg (WLq 4 [(120, I6 lim1), (119, I6 (mid : Int)), (118, I6 (a2 : Int)), (117, .slice A xs.length c)] ?_)))))))))
    refine WLk (IH (mid - a2) (by omega) A c xs.length ys158 (own_count (Go.Tw.encI_len .u32) (by decide) ac) a2 mid lim1 bm ac hlen (by omega) (by omega) (by omega) hbl_) ?_
    rintro _ cN ⟨ys178, rfl, bv, ai, bw⟩
    have bx := aK.callF 0 rfl bv (fun _ h_ => .inl h_) (own_lt ai)
    have cm := own_count (Go.Tw.encI_len .u32) (by decide) ai
    refine ⟨_, rfl, ?_⟩
    obtain ⟨bz, bA⟩ := hfl_ _ bw
    refine WLd rfl (QXn (bu _ _ (WCg (WLz 2 [(123, I6 (IntKind.i64.wrap ((mid : Int) + 1)))] (WLt (show (I6 (IntKind.i64.wrap ((mid : Int) + 1)) : Value) = I6 ((mid + 1 : Nat) : Int) from by rw [wrap_in_i64 _ (by omega) (by omega)] <;> first | rfl | (congr 1; done) | (congr 1; omega)) (WLq 1 [(1, I6 ((mid + 1 : Nat) : Int))] (WLd rfl ?_)))))))
    refine QXb (QXn ?_)
    have bB := bx.pick [] [0] rfl rfl
    refine fun a_ ha_ => hK6 _ _ _ ?_ ⟨mid + 1, b2, lim1, ys178, (decide (((mid - a2 : Nat) : Int) ≥ (((b2 - a2) / 8 : Nat) : Int))), ap, rfl, rfl, bB, ai, ⟨by omega, by omega, by omega⟩, (own_count (Go.Tw.encI_len .u32) (by decide) ai), bz, bA⟩ a_ (ha_.weaken (sub_of ⟨rfl, rfl, rfl, rfl, rfl, rfl, trivial⟩))
    omega
   ·
    have cg : ((b2 - mid : Nat) : Int) ≤ ((mid - a2 : Nat) : Int) := by have q_ := of_decide_eq_false av; omega
    refine WCf rfl (WCs (fun cO bC => WCg (WLz 4 [(8, .bool (decide (((b2 - mid : Nat) : Int) ≥ (((b2 - a2) / 8 : Nat) : Int))))] (WLd rfl (QXn (bC _ _ (WCs (fun cP bD => WCg ?_))))))))
    refine WLz 3 [(129, I6 (IntKind.i64.wrap ((mid : Int) + 1))), (127, .slice A xs.length c)] (WLt (show (I6 (IntKind.i64.wrap ((mid : Int) + 1)) : Value) = I6 ((mid + 1 : Nat) : Int) from by rw [wrap_in_i64 _ (by omega) (by omega)] <;> first | rfl | (congr 1; done) | (congr 1; omega)) (WLq 2 [(131, I6 lim1), (130, I6 (b2 : Int))] (WLk (IH (b2 - (mid + 1)) (by omega) A c xs.length ys158 (own_count (Go.Tw.encI_len .u32) (by decide) ac) (mid + 1) b2 lim1 bm ac hlen (by omega) (by omega) (by omega) hbr_) ?_)))
    rintro _ cQ ⟨ys192, rfl, bE, aj, bF⟩
    have bG := aK.callF 0 rfl bE (fun _ h_ => .inl h_) (own_lt aj)
    have cn := own_count (Go.Tw.encI_len .u32) (by decide) aj
    refine ⟨_, rfl, ?_⟩
    obtain ⟨bH, bI⟩ := hfr_ _ bF
    refine WLd rfl (QXn (bD _ _ (WCg (WLz 2 [(2, I6 (mid : Int))] (WLd rfl (QXb (QXn ?_)))))))
    have bJ := bG.pick [] [0] rfl rfl
    refine fun a_ ha_ => hK6 _ _ _ ?_ ⟨a2, mid, lim1, ys192, (decide (((b2 - mid : Nat) : Int) ≥ (((b2 - a2) / 8 : Nat) : Int))), ap, rfl, rfl, bJ, aj, ⟨by omega, by omega, by omega⟩, (own_count (Go.Tw.encI_len .u32) (by decide) aj), bH, bI⟩ a_ (ha_.weaken (sub_of ⟨rfl, rfl, rfl, rfl, rfl, rfl, trivial⟩))
    omega

theorem pdq_all : ∀ k, PdqC k := fun k => by
  induction k using Nat.strongRecOn with
  | _ k ih =>
    intro A c n xs hn a b lim w hown hlen hab hb hk hB
    subst hn
    exact pdq_step k ih A c xs a b lim w hown hlen hab hb hk hB
end Go.Proofs.YtfligklljkcbfaaGreatDoor
namespace Go.Proofs.YtfligklljkcbfaaGreatDoor
set_option linter.unusedSimpArgs false
set_option linter.unusedVariables false
set_option linter.unusedSectionVars false
open Go Go.RowKit Go.Tw
set_option linter.unusedVariables false
set_option maxRecDepth 20000
open Go.Sort
theorem slcAt_blk0 {b l c : Nat} (h : l < c) : slcAt (some ⟨b, 0, none⟩) l c 1 = some ⟨b, l, none⟩ := slcAt_blk h (by omega)
/-! the rising list of vips -/
def sortU (xs : List Int) : List Int := xs.mergeSort fun x y => decide (x ≤ y)
theorem sortU_mem {xs : List Int} {x : Int} : x ∈ sortU xs ↔ x ∈ xs := List.mem_mergeSort
theorem sortU_of {xs ys : List Int} (h : PermIn 0 xs.length (aOf xs) (aOf ys) ∧ SortedIn ltInt 0 xs.length (aOf ys)) : ys = sortU xs := by
  have hz : (aOf xs).size = xs.length := aSize xs
  have h2 := sorted_unique_holds (lt := ltInt) swo_ltInt (fun x y h1 h2 => by simp only [ltInt, decide_eq_false_iff_not] at h1 h2; omega) (aOf xs) (aOf ys) (by rw [hz]; exact h.1) (by rw [hz]; exact h.2)
  have h3 : (fun x y : Int => !ltInt y x) = fun x y => decide (x ≤ y) := by
    funext x y; unfold ltInt; rw [Bool.eq_iff_iff]; simp
  rw [h3] at h2
  simpa [aOf, sortU] using h2
def cptN (xs : List Int) : Nat → List Int
  | 0 => []
  | j + 1 => if 0 < j ∧ xs[j]? = xs[j - 1]? then cptN xs j else cptN xs j ++ xs[j]?.toList
structure CptI (xs L : List Int) (k j : Nat) : Prop where
  kj : k < j ∧ j ≤ xs.length ∧ 0 < k
  len : L.length = xs.length
  pre : L.take k = cptN xs j
  post : L.drop (j - 1) = xs.drop (j - 1)
theorem cpt_take {xs : List Int} {k : Nat} {x y : Int} (h0 : 0 < k) (h : cptN xs k = xs.take k) (hx : xs[k]? = some x) (hy : xs[k - 1]? = some y) (hne : (x == y) = false) : cptN xs (k + 1) = xs.take (k + 1) := by
  obtain ⟨hk, rfl⟩ := List.getElem?_eq_some_iff.1 hx
  have e : ¬ (0 < k ∧ xs[k]? = xs[k - 1]?) := fun q => by rw [hx, hy] at q; have := Option.some.inj q.2; rw [this] at hne; simp at hne
  rw [List.take_succ_eq_append_getElem hk]
  unfold cptN; rw [if_neg e, h, hx]; rfl
theorem cpt_one {xs : List Int} (h : 1 ≤ xs.length) : cptN xs 1 = xs.take 1 := by
  cases xs with
  | nil => simp at h
  | cons a r => simp [cptN]
theorem CptI.start {xs : List Int} {k : Nat} {x y : Int} (h0 : 0 < k) (h : cptN xs k = xs.take k) (hx : xs[k]? = some x) (hy : xs[k - 1]? = some y) (he : (x == y) = true) : CptI xs xs k (k + 1) := by
  have hk := (List.getElem?_eq_some_iff.1 hx).1
  have e : x = y := eq_of_beq he
  refine ⟨by omega, rfl, ?_, rfl⟩
  simp only [cptN, if_pos (show 0 < k ∧ xs[k]? = xs[k - 1]? from ⟨h0, by rw [hx, hy, e]⟩), h]
theorem CptI.el {xs L : List Int} {k j : Nat} (h : CptI xs L k j) (i : Nat) (hi : j - 1 ≤ i) : L[i]? = xs[i]? := by
  have h1 : (L.drop (j - 1))[i - (j - 1)]? = (xs.drop (j - 1))[i - (j - 1)]? := by rw [h.post]
  rw [List.getElem?_drop, List.getElem?_drop, show j - 1 + (i - (j - 1)) = i from by omega] at h1; exact h1
theorem CptI.skip {xs L : List Int} {k j : Nat} {x y : Int} (h : CptI xs L k j) (hx : L[j]? = some x) (hy : L[j - 1]? = some y) (he : (x != y) = false) : CptI xs L k (j + 1) := by
  have hj := h.kj
  rw [h.el j (by omega)] at hx; rw [h.el (j - 1) (Nat.le_refl _)] at hy
  have hlt := (List.getElem?_eq_some_iff.1 hx).1
  have e : x = y := by simpa using he
  refine ⟨by omega, h.len, ?_, ?_⟩
  · simp only [cptN, if_pos (show 0 < j ∧ xs[j]? = xs[j - 1]? from ⟨by omega, by rw [hx, hy, e]⟩)]; exact h.pre
  · have h1 : L.drop (j - 1 + 1) = xs.drop (j - 1 + 1) := by rw [← List.drop_drop, h.post, List.drop_drop]
    rw [show j + 1 - 1 = j - 1 + 1 from by omega]; exact h1
theorem CptI.keep {xs L : List Int} {k j : Nat} {x y : Int} (h : CptI xs L k j) (hx : L[j]? = some x) (hy : L[j - 1]? = some y) (he : (x != y) = true) : CptI xs (L.set k x) (k + 1) (j + 1) := by
  have hj := h.kj
  rw [h.el j (by omega)] at hx; rw [h.el (j - 1) (Nat.le_refl _)] at hy
  have hlt := (List.getElem?_eq_some_iff.1 hx).1
  have e : ¬ (0 < j ∧ xs[j]? = xs[j - 1]?) := fun q => by rw [hx, hy] at q; have := Option.some.inj q.2; rw [this] at he; simp at he
  refine ⟨by omega, by rw [List.length_set]; exact h.len, ?_, ?_⟩
  · have hi : k < (L.set k x).length := by rw [List.length_set, h.len]; omega
    rw [List.take_succ_eq_append_getElem hi, List.getElem_set_self, List.take_set_of_le (by omega), h.pre]
    conv => rhs; unfold cptN
    rw [if_neg e, hx]; rfl
  · rw [List.drop_set_of_lt (by omega)]
    have h1 : L.drop (j - 1 + 1) = xs.drop (j - 1 + 1) := by rw [← List.drop_drop, h.post, List.drop_drop]
    rw [show j + 1 - 1 = j - 1 + 1 from by omega]; exact h1
def cpt (xs : List Int) : List Int := cptN xs xs.length
theorem SortU_ct (A : Option Addr) (c : Nat) (xs : List Int) (w : World) (hown : w.ownsRow 0 40 1 (.slice A xs.length c) xs.length (xs.flatMap (Go.Tw.encI .u32))) (hlen : xs.length ≤ 1099511627776) : Calls Tryz.prog 54 #[.slice A xs.length c] w fun e w' => ∃ ys : List Int, e = .returned (.tuple #[]) ∧ Fr w w' (blk (.slice A xs.length c)) ∧ w'.ownsRow 0 40 1 (.slice A xs.length c) xs.length (ys.flatMap (Go.Tw.encI .u32)) ∧ ys = sortU xs := by
 refine enterD (n := 11) Tryz.func54 rfl rfl (Nat.le_of_ble_eq_true rfl) ?_
 intro Q0 hN hret hret'
 have hcc_ := own_le hown
 have hC := Cx.start1 w (own_lt hown)
 have hLs_ := own_count (Go.Tw.encI_len .u32) (by decide) hown
 refine WCs (fun K1 hK2 => WCg (WLz 3 [(2, I6 (xs.length : Int))] (WLd rfl (QXn (hK2 _ _ (WCg (WLz 4 [(8, .int .u64 (IntKind.u64.wrap ((xs.length : Int)))), (6, I6 (xs.length : Int)), (5, .slice A xs.length c)] (WLt (show (.int .u64 (IntKind.u64.wrap ((xs.length : Int))) : Value) = .int .u64 (xs.length : Int) from by rw [wrap_in_u64 _ (by omega) (by omega)]) ?_))))))))
 refine WLk (Len_ct (xs.length : Int) w (by omega) (by omega)) ?_
 rintro _ w4 ⟨r_, rfl, hF3⟩
 refine ⟨_, rfl, ?_⟩
 have hC5 := hC.call hF3
 have ho6 := own_fr hown hF3 (by simp)
 refine WLk (pdq_all xs.length A c xs.length xs (own_count (Go.Tw.encI_len .u32) (by decide) ho6) 0 xs.length r_ w4 ho6 hlen (Nat.zero_le _) (Nat.le_refl _) (by omega) (.inl rfl)) ?_
 rintro _ w7 ⟨ys8, rfl, hF9, aa, ab⟩
 have ac := hC5.callF 0 rfl hF9 (fun _ h_ => .inl h_) (own_lt aa)
 have ad := own_count (Go.Tw.encI_len .u32) (by decide) aa
 refine ⟨_, rfl, ?_⟩
 refine WLd rfl ?_
 refine (hret _ _ _ rfl ?_).2
 exact ⟨_, rfl, ac.fr, aa, sortU_of ab⟩

theorem SortU_n (A : Option Addr) (c n : Nat) (xs : List Int) (hn : xs.length = n) (w : World) (hown : w.ownsRow 0 40 1 (.slice A n c) n (xs.flatMap (Go.Tw.encI .u32))) (hlen : n ≤ 1099511627776) : Calls Tryz.prog 54 #[.slice A n c] w fun e w' => e = .returned (.tuple #[]) ∧ Fr w w' (blk (.slice A n c)) ∧ w'.ownsRow 0 40 1 (.slice A n c) n ((sortU xs).flatMap (Go.Tw.encI .u32)) := by
  subst hn
  exact (SortU_ct A c xs w hown hlen).mono fun e w' ⟨ys, h1, h2, h3, h4⟩ => ⟨h1, h2, h4 ▸ h3⟩
set_option maxHeartbeats 1000000 in
theorem CptU_ct (A : Option Addr) (c : Nat) (xs : List Int) (w : World) (hown : w.ownsRow 0 40 1 (.slice A xs.length c) xs.length (xs.flatMap (Go.Tw.encI .u32))) (hlen : xs.length ≤ 1099511627776) : Calls Tryz.prog 55 #[.slice A xs.length c] w fun e w' => e = .returned (.slice A (cpt xs).length c) ∧ Fr w w' (blk (.slice A xs.length c)) ∧ w'.ownsRow 0 40 1 (.slice A (cpt xs).length c) (cpt xs).length ((cpt xs).flatMap (Go.Tw.encI .u32)) := by
 refine enterD (n := 61) Tryz.func55 rfl rfl (Nat.le_of_ble_eq_true rfl) ?_
 intro Q0 hN hret hret'
 have hcc_ := own_le hown
 have hC := Cx.start1 w (own_lt hown)
 have hLs_ := own_count (Go.Tw.encI_len .u32) (by decide) hown
 refine WCs (fun K1 hK2 => WCg (WLq 1 [(2, .slice none 0 0)] (WLd rfl (QXn (hK2 _ _ (WCs (fun K3 hK4 => WCs (fun K5 hK6 => WCg (WLz 3 [(8, .bool (decide ((xs.length : Int) < 2)))] (WLd rfl (QXn (hK6 _ _ ?_))))))))))))
 refine WCa 8 (decide ((xs.length : Int) < 2)) rfl (fun t7b => ?_) (fun t7b => ?_)
 ·
  have t7 : (xs.length : Int) < 2 := by have q_ := of_decide_eq_true t7b; omega
  refine WCt rfl (WCs (fun K8 hK9 => WCg (WLz 2 [(2, .slice A xs.length c)] (WLd rfl (QXn (hK9 _ _ (WC.ret (QXr ?_))))))))
  refine (hret _ _ _ rfl ?_).1
  clear hN hret hret' hK9 hK6 hK4 hK2
  have hcx_ : cpt xs = xs := by
   unfold cpt
   rcases (by omega : xs.length = 0 ∨ xs.length = 1) with h_ | h_
   ·
    rw [h_]; exact (List.eq_nil_of_length_eq_zero h_).symm
   ·
    rw [h_, cpt_one (by omega)]; exact List.take_of_length_le (by omega)
  rw [hcx_]
  exact ⟨rfl, hC.fr, hown⟩
 ·
  have t7 : (2 : Int) ≤ (xs.length : Int) := by have q_ := of_decide_eq_false t7b; omega
  refine WCf rfl (WC.skip (QXn (hK4 _ _ (WCs (fun bz ar => WCs (fun bA au => WCg (WLq 1 [(3, I6 1)] (WLd rfl (QXn (au _ _ (WC.block ?_)))))))))))
  have hn2_ : 2 ≤ xs.length := by omega
  refine WC.loop (fun m_ E_ w_ => ∃ (k : Nat), m_ = xs.length - k ∧ E_ = [(0, .slice A xs.length c), (3, I6 (k : Int))] ∧ Cx w (blk (.slice A xs.length c)) w_ [] [blk (.slice A xs.length c)] ∧ World.ownsRow w_ 0 40 1 (.slice A xs.length c) xs.length (xs.flatMap (Go.Tw.encI .u32)) ∧ ((1 ≤ k ∧ k ≤ xs.length) ∧ cptN xs k = xs.take k)) ⟨_, _, ⟨1, rfl, rfl, hC, hown, ⟨Nat.le_refl _, by omega⟩, cpt_one (by omega)⟩, sub_of ⟨rfl, rfl, trivial⟩⟩ (fun m17 E_ bB bC a8 a9 => ?_)
  obtain ⟨k, rfl, rfl, aB, row_m17, ⟨hk1, hk2⟩, hcp⟩ := a9
  refine WCs (fun bD av => WCs (fun bE aw => WCg (WLz 4 [(13, .bool (decide ((k : Int) < (xs.length : Int))))] (WLd rfl (QXn (aw _ _ (WCa 13 (decide ((k : Int) < (xs.length : Int))) rfl (fun ax => ?_) (fun ax => ?_))))))))
  ·
   have bk : (k : Int) < (xs.length : Int) := by have q_ := of_decide_eq_true ax; omega
   refine WCt rfl (WC.skip (QXn (av _ _ (WCs (fun bF aC => WC.block (WCs (fun bG aD => ?_)))))))
   refine WC.drawC aB [] (by kernel_rfl) (fun bH ba aE ab => ?_)
   have ad := own_fr row_m17 ba (by simp)
   refine WDx 2 [(0, 16, .slice A xs.length c), (1, 17, I6 (k : Int))] ab ?_
   have bl := own_count (Go.Tw.encI_len _) (by decide) ad
   obtain ⟨aF, ak⟩ := get_some (xs := xs) (i := k) (by omega)
   obtain ⟨b36, aG⟩ := own_addr (by decide) (Go.Tw.encI_len _) ad ak
   refine WDi (NPt (NPb (NPt (NPt (NPb (NPt hN)))))) 2 A xs.length c 18 .i64 (k : Int) b36 0 k 1 (by kernel_rfl) (by kernel_rfl) aG (by omega) (by omega) k (by first | (simp; done) | omega) ab (WDx 3 [(4, 20, .slice A xs.length c), (5, 21, I6 (k : Int)), (6, 22, I6 (IntKind.i64.wrap ((k : Int) - 1)))] ab (WD.recast (show (I6 (IntKind.i64.wrap ((k : Int) - 1)) : Value) = I6 ((k - 1 : Nat) : Int) from by rw [wrap_in_i64 _ (by omega) (by omega)] <;> first | rfl | (congr 1; done) | (congr 1; omega)) ?_))
   have bm := own_count (Go.Tw.encI_len _) (by decide) ad
   obtain ⟨aH, al⟩ := get_some (xs := xs) (i := (k - 1)) (by omega)
   obtain ⟨b41, aI⟩ := own_addr (by decide) (Go.Tw.encI_len _) ad al
   refine WDi (NPt (NPb (NPt (NPt (NPb (NPt hN)))))) 7 A xs.length c 23 .i64 ((k - 1 : Nat) : Int) b41 0 (k - 1) 1 (by kernel_rfl) (by kernel_rfl) aI (by omega) (by omega) (k - 1) (by first | (simp; done) | omega) ab (WDm 3 40 (P0 b36 k) (U4 aF) 19 (fun _ hS_ => run_load1 rfl (by simpa [Nat.add_assoc] using Rd.cell (own_rd (own_fr ad hS_ (by simp)) (Go.Tw.encI_len _) (by decide)) aG ak 0 _ rfl)) ab (WDm 8 40 (P0 b41 (k - 1)) (U4 aH) 24 (fun _ hS_ => run_load1 rfl (by simpa [Nat.add_assoc] using Rd.cell (own_rd (own_fr ad hS_ (by simp)) (Go.Tw.encI_len _) (by decide)) aI al 0 _ rfl)) ab (WDq 9 25 (.bool (aF == aH)) ab (WDd (QXn (aD _ _ ?_))))))
   refine WCa 25 (aF == aH) rfl (fun ae => ?_) (fun ae => ?_)
   ·
    have bn : aF = aH := by simpa using ae
    refine WCt rfl (WCs (fun bI aJ => WCg (WLq 2 [(27, I6 (k : Int)), (26, .slice A xs.length c)] ?_)))
    obtain ⟨af, ay⟩ : ∃ A_, slcAt A k c 1 = A_ := ⟨_, rfl⟩
    have hle_ := own_le ad
    have bb : xs.length ≤ c := by omega
    refine WL.slc 28 40 1 A af xs.length c k xs.length (xs.length - k) (c - k) (some (I6 (k : Int))) none 28 (by kernel_rfl) (by kernel_rfl) (bnd.yes (by omega)) bnd.no (by omega) bb ay (by first | rfl | omega) (by first | rfl | omega) (WLq 1 [(4, .slice af (xs.length - k) (c - k))] (WLd rfl (QXn (aJ _ _ (WCs (fun bJ aK => WCs (fun bK aL => WCg (WLq 1 [(5, I6 1)] (WLd rfl (QXn (aL _ _ (WC.block ?_))))))))))))
    refine WC.loop (fun m_ E_ w_ => ∃ (k5 j : Nat) (L : List Int), m_ = xs.length - k - j ∧ E_ = [(0, .slice A xs.length c), (3, I6 (k5 : Int)), (4, .slice af (xs.length - k) (c - k)), (5, I6 (j : Int))] ∧ Cx w (blk (.slice A xs.length c)) w_ [] [blk (.slice A xs.length c)] ∧ World.ownsRow w_ 0 40 1 (.slice A xs.length c) xs.length (L.flatMap (Go.Tw.encI .u32)) ∧ ((1 ≤ j ∧ k + j ≤ xs.length) ∧ CptI xs L k5 (k + j))) ⟨_, _, ⟨k, 1, xs, rfl, rfl, aE, ad, ⟨Nat.le_refl _, by omega⟩, CptI.start (by omega) hcp ak al ae⟩, sub_of ⟨rfl, rfl, rfl, rfl, trivial⟩⟩ (fun m57 E_ bL bM aM bc => ?_)
    obtain ⟨k5, j, L, rfl, rfl, aN, hrow, ⟨hj1, hj2⟩, hci⟩ := bc
    have hkj_ := hci.kj
    have hLl_ := hci.len
    refine WCs (fun bN aO => WCs (fun bO aP => WCg (WLz 4 [(32, .bool (decide ((j : Int) < ((xs.length - k : Nat) : Int))))] (WLd rfl (QXn (aP _ _ (WCa 32 (decide ((j : Int) < ((xs.length - k : Nat) : Int))) rfl (fun az => ?_) (fun az => ?_))))))))
    ·
     have bo : (j : Int) < ((xs.length - k : Nat) : Int) := by have q_ := of_decide_eq_true az; omega
     refine WCt rfl (WC.skip (QXn (aO _ _ (WCs (fun bP aQ => WC.block (WCs (fun bQ bd => ?_)))))))
     refine WC.drawC aN [] (by kernel_rfl) (fun bR be aR ac => ?_)
     have aa := own_fr hrow be (by simp)
     refine WDx 2 [(0, 35, .slice af (xs.length - k) (c - k)), (1, 36, I6 (j : Int))] ac ?_
     have bp := own_count (Go.Tw.encI_len _) (by decide) aa
     obtain ⟨ag, ah⟩ := get_some (xs := L) (i := k + j) (by omega)
     obtain ⟨b76, aA⟩ := own_addr (by decide) (Go.Tw.encI_len _) aa ah
     have aS : af = some ⟨b76, k, none⟩ := by rw [← ay, aA]; exact slcAt_blk0 (by omega)
     refine WDi (NPt (NPb (NPt (NPt (NPb (NPt (NPb (NPt (NPt (NPb (NPt hN))))))))))) 2 af (xs.length - k) (c - k) 37 .i64 (j : Int) b76 k j 1 (by kernel_rfl) (by kernel_rfl) aS (by omega) (by omega) (k + j) (by first | (simp; done) | omega) ac (WDx 3 [(4, 39, .slice af (xs.length - k) (c - k)), (5, 40, I6 (j : Int)), (6, 41, I6 (IntKind.i64.wrap ((j : Int) - 1)))] ac (WD.recast (show (I6 (IntKind.i64.wrap ((j : Int) - 1)) : Value) = I6 ((j - 1 : Nat) : Int) from by rw [wrap_in_i64 _ (by omega) (by omega)] <;> first | rfl | (congr 1; done) | (congr 1; omega)) ?_))
     have bq := own_count (Go.Tw.encI_len _) (by decide) aa
     obtain ⟨aT, am⟩ := get_some (xs := L) (i := k + (j - 1)) (by omega)
     obtain ⟨b82, aU⟩ := own_addr (by decide) (Go.Tw.encI_len _) aa am
     have bf : af = some ⟨b82, k, none⟩ := by rw [← ay, aU]; exact slcAt_blk0 (by omega)
     refine WDi (NPt (NPb (NPt (NPt (NPb (NPt (NPb (NPt (NPt (NPb (NPt hN))))))))))) 7 af (xs.length - k) (c - k) 42 .i64 ((j - 1 : Nat) : Int) b82 k (j - 1) 1 (by kernel_rfl) (by kernel_rfl) bf (by omega) (by omega) (k + (j - 1)) (by first | (simp; done) | omega) ac (WDm 3 40 (P0 b76 (k + j)) (U4 ag) 38 (fun _ hS_ => run_load1 rfl (by simpa [Nat.add_assoc] using Rd.cell (own_rd (own_fr aa hS_ (by simp)) (Go.Tw.encI_len _) (by decide)) aA ah 0 _ rfl)) ac (WDm 8 40 (P0 b82 (k + (j - 1))) (U4 aT) 43 (fun _ hS_ => run_load1 rfl (by simpa [Nat.add_assoc] using Rd.cell (own_rd (own_fr aa hS_ (by simp)) (Go.Tw.encI_len _) (by decide)) aU am 0 _ rfl)) ac (WDq 9 44 (.bool (ag != aT)) ac (WDd (QXn (bd _ _ ?_))))))
     refine WCa 44 (ag != aT) rfl (fun ai => ?_) (fun ai => ?_)
     ·
      have br : ag ≠ aT := by simpa using ai
      refine WCt rfl (WCs (fun bS bg => WCg (WLq 4 [(48, I6 (j : Int)), (47, .slice af (xs.length - k) (c - k)), (46, I6 (k5 : Int)), (45, .slice A xs.length c)] (WLi af (xs.length - k) (c - k) 49 .i64 (j : Int) b76 k j 1 (by kernel_rfl) aS (by omega) (by omega) (k + j) (by first | (simp; done) | omega) (WLo 40 (P0 b76 (k + j)) (U4 ag) 50 (run_load1 rfl (by simpa [Nat.add_assoc] using Rd.cell (own_rd aa (Go.Tw.encI_len _) (by decide)) aA ah 0 _ rfl)) ?_)))))
      have bs := own_count (Go.Tw.encI_len _) (by decide) aa
      obtain ⟨bt, aV⟩ := get_some (xs := L) (i := k5) (by omega)
      obtain ⟨b95, aW⟩ := own_addr (by decide) (Go.Tw.encI_len _) aa aV
      refine WLi A xs.length c 51 .i64 (k5 : Int) b95 0 k5 1 (by kernel_rfl) aW (by omega) (by omega) k5 (by first | (simp; done) | omega) ?_
      obtain ⟨bT, bh, bi, aX, aY⟩ := stoE_run Tryz.prog (Go.Tw.encI_len _) aR 0 aW rfl aa k5 0 (x := bt) aV ag [U4 ag] rfl 40 (U4 ag) (k5) rfl rfl rfl (by first | rfl | simp [Nat.add_assoc])
      refine WLU bh (WLd rfl (QXn (bg _ _ (WCg (WLz 2 [(53, I6 (IntKind.i64.wrap ((k5 : Int) + 1)))] (WLt (show (I6 (IntKind.i64.wrap ((k5 : Int) + 1)) : Value) = I6 ((k5 + 1 : Nat) : Int) from by rw [wrap_in_i64 _ (by omega) (by omega)] <;> first | rfl | (congr 1; done) | (congr 1; omega)) (WLq 1 [(3, I6 ((k5 + 1 : Nat) : Int))] ?_)))))))
      refine WLd rfl (QXb (QXn (aQ _ _ (WCg (WLz 2 [(34, I6 (IntKind.i64.wrap ((j : Int) + 1)))] (WLt (show (I6 (IntKind.i64.wrap ((j : Int) + 1)) : Value) = I6 ((j + 1 : Nat) : Int) from by rw [wrap_in_i64 _ (by omega) (by omega)] <;> first | rfl | (congr 1; done) | (congr 1; omega)) ?_))))))
      refine WLq 1 [(5, I6 ((j + 1 : Nat) : Int))] (WLd rfl (QXn ?_))
      have aZ := aY.pick [] [0] rfl rfl
      refine fun a_ ha_ => aM _ _ _ ?_ ⟨k5 + 1, j + 1, L.set k5 ag, rfl, rfl, aZ, aX, ⟨by omega, by omega⟩, hci.keep ah (show L[k + j - 1]? = _ from by rw [show k + j - 1 = k + (j - 1) from by omega]; exact am) ai⟩ a_ (ha_.weaken (sub_of ⟨rfl, rfl, rfl, rfl, trivial⟩))
      omega
     ·
      have br : ag = aT := by simpa using ai
      refine WCf rfl (WC.skip (QXb (QXn (aQ _ _ (WCg (WLz 2 [(34, I6 (IntKind.i64.wrap ((j : Int) + 1)))] (WLt (show (I6 (IntKind.i64.wrap ((j : Int) + 1)) : Value) = I6 ((j + 1 : Nat) : Int) from by rw [wrap_in_i64 _ (by omega) (by omega)] <;> first | rfl | (congr 1; done) | (congr 1; omega)) ?_)))))))
      refine WLq 1 [(5, I6 ((j + 1 : Nat) : Int))] (WLd rfl (QXn ?_))
      have a0 := aR.pick [] [0] rfl rfl
      refine fun a_ ha_ => aM _ _ _ ?_ ⟨k5, j + 1, L, rfl, rfl, a0, aa, ⟨by omega, by omega⟩, hci.skip ah (show L[k + j - 1]? = _ from by rw [show k + j - 1 = k + (j - 1) from by omega]; exact am) ai⟩ a_ (ha_.weaken (sub_of ⟨rfl, rfl, rfl, rfl, trivial⟩))
      omega
    ·
     have bo : ((xs.length - k : Nat) : Int) ≤ (j : Int) := by have q_ := of_decide_eq_false az; omega
     refine WCf rfl (WC.exit (QXe (QXe (QX.block_hit (QXn (aK _ _ ?_))))))
     refine WCs (fun bu an => WCg (WLq 2 [(55, I6 (k5 : Int)), (54, .slice A xs.length c)] ?_))
     obtain ⟨a1, ao⟩ : ∃ A_, slcAt A k5 c 1 = A_ := ⟨_, rfl⟩
     have hle_ := own_le hrow
     have a2 : xs.length ≤ c := by omega
     refine WL.slc 28 40 1 A a1 xs.length c k5 xs.length (xs.length - k5) (c - k5) (some (I6 (k5 : Int))) none 56 (by kernel_rfl) (by kernel_rfl) (bnd.yes (by omega)) bnd.no (by omega) a2 ao (by first | rfl | omega) (by first | rfl | omega) ?_
     obtain ⟨bv, a3, bj, a4, a5⟩ := clear_run (P := Tryz.prog) aN 0 (t := 28) (ty := 0) (bytes := 4) (by kernel_rfl) (by kernel_rfl) rfl hrow (by omega) ao
     have aj := a5
     rw [flat_take (Go.Tw.encI_len _)] at aj
     refine WL.semN (Builtin.clear_ #[28] 0 #[.slice a1 (xs.length - k5) (c - k5)]) _ (by kernel_rfl) a3 (WLd rfl (QXn (an _ _ (WCs (fun bw ap => WCg (WLq 2 [(58, I6 (k5 : Int)), (57, .slice A xs.length c)] ?_))))))
     have a6 : k5 ≤ c := by omega
     refine WL.slc 28 40 1 A A xs.length c 0 k5 k5 c none (some (I6 (k5 : Int))) 59 (by kernel_rfl) (by kernel_rfl) bnd.no (bnd.yes (by omega)) (by omega) a6 (slcAt_pre _ _ _) (by first | rfl | omega) (by first | rfl | omega) (WLq 1 [(2, .slice A k5 c)] (WLd rfl (QXn (ap _ _ (WC.ret (QXk (QXr (QXr ?_))))))))
     refine QXk (QXr ?_)
     refine (hret _ _ _ rfl ?_).1
     clear hN hret hret' ap an aP aO aL aK aJ aD aC aw av au ar hK6 hK4 hK2
     have hend_ : L.take k5 = cpt xs := by unfold cpt; rw [hci.pre, show k + j = xs.length from by omega]
     have hcn_ : (cpt xs).length = k5 := by rw [← hend_, List.length_take]; omega
     rw [hend_] at aj
     rw [hcn_]
     exact ⟨rfl, a4.fr, aj⟩
   ·
    have bn : ¬ (aF = aH) := by simpa using ae
    refine WCf rfl (WC.skip (QXb (QXn (aC _ _ (WCg (WLz 2 [(15, I6 (IntKind.i64.wrap ((k : Int) + 1)))] (WLt (show (I6 (IntKind.i64.wrap ((k : Int) + 1)) : Value) = I6 ((k + 1 : Nat) : Int) from by rw [wrap_in_i64 _ (by omega) (by omega)] <;> first | rfl | (congr 1; done) | (congr 1; omega)) ?_)))))))
    refine WLq 1 [(3, I6 ((k + 1 : Nat) : Int))] (WLd rfl (QXn ?_))
    have a7 := aE.pick [] [0] rfl rfl
    refine fun a_ ha_ => a8 _ _ _ ?_ ⟨k + 1, rfl, rfl, a7, ad, ⟨by omega, by omega⟩, cpt_take (by omega) hcp ak al ae⟩ a_ (ha_.weaken (sub_of ⟨rfl, rfl, trivial⟩))
    omega
  ·
   have bk : (xs.length : Int) ≤ (k : Int) := by have q_ := of_decide_eq_false ax; omega
   refine WCf rfl (WC.exit (QXe (QXe (QX.block_hit (QXn (ar _ _ ?_))))))
   refine WCs (fun bx aq => WCg (WLz 2 [(2, .slice A xs.length c)] (WLd rfl (QXn (aq _ _ (WC.ret ?_))))))
   refine (hret _ _ _ rfl ?_).1
   clear hN hret hret' aq aw av au ar hK6 hK4 hK2
   have hcx_ : cpt xs = xs := by
    unfold cpt
    obtain rfl : k = xs.length := by omega
    rw [hcp]; exact List.take_of_length_le (Nat.le_refl _)
   rw [hcx_]
   exact ⟨rfl, aB.fr, row_m17⟩

theorem CptU_n (A : Option Addr) (c n : Nat) (xs : List Int) (hn : xs.length = n) (w : World) (hown : w.ownsRow 0 40 1 (.slice A n c) n (xs.flatMap (Go.Tw.encI .u32))) (hlen : n ≤ 1099511627776) : Calls Tryz.prog 55 #[.slice A n c] w fun e w' => e = .returned (.slice A (cpt xs).length c) ∧ Fr w w' (blk (.slice A n c)) ∧ w'.ownsRow 0 40 1 (.slice A (cpt xs).length c) (cpt xs).length ((cpt xs).flatMap (Go.Tw.encI .u32)) := by subst hn; exact CptU_ct A c xs w hown hlen
end Go.Proofs.YtfligklljkcbfaaGreatDoor
