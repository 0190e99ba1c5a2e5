/- Contracts of functions of the program, each proved by a walk through its code; conditions stand in the statements. -/
import Derived.Test.YtmahghppojbeoaaSeU
import Derived.Test.YtmahghppojbeoaaSeW
import Derived.Test.YtmahghppojbeoaaSeX
import Derived.Test.YtmahghppojbeoaaSeY
import Derived.Sort.AssemblyPlain
namespace Go.Proofs.Ytmahghppojbeoaa
set_option linter.unusedSimpArgs false
set_option linter.unusedVariables false
set_option linter.unusedSectionVars false
open Go Go.RowKit Go.Tw
set_option linter.unusedVariables false
set_option maxRecDepth 20000
open Go.Sort
def FinS (a b a2 b2 : Nat) (xs L : List Int) : Prop := ∀ R, PermIn a2 b2 (aOf L) R → SortedIn ltInt a2 b2 R → PermIn a b (aOf xs) R ∧ SortedIn ltInt a b R
theorem fin_refl (a b : Nat) (xs : List Int) : FinS a b a b xs xs := fun _ h1 h2 => ⟨h1, h2⟩
theorem fin_perm {a b a2 b2 : Nat} {xs L M : List Int} (h : FinS a b a2 b2 xs L) (hp : PermIn a2 b2 (aOf L) (aOf M)) : FinS a b a2 b2 xs M := fun R h1 h2 => h R (permIn_trans _ _ _ _ _ hp h1) h2
theorem bel_perm {a b : Nat} {L M : List Int} (h : Below ltInt a b (aOf L)) (hb : b ≤ L.length) (hp : PermIn a b (aOf L) (aOf M)) : Below ltInt a b (aOf M) := h.perm (by rw [aSize]; exact hb) hp
theorem fin_ins {a b a2 b2 : Nat} {xs L M : List Int} (h : FinS a b a2 b2 xs L) (hab : a2 ≤ b2) (hb : b2 ≤ L.length) (e : aOf M = insertionSort ltInt (aOf L) a2 b2) : PermIn a b (aOf xs) (aOf M) ∧ SortedIn ltInt a b (aOf M) := by
  have h1 := insertionSort_holds swo_ltInt (aOf L) a2 b2 hab (by rw [aSize]; exact hb)
  rw [← e] at h1; exact h _ h1.1 h1.2
theorem fin_heap {a b a2 b2 : Nat} {xs L M : List Int} (h : FinS a b a2 b2 xs L) (hab : a2 ≤ b2) (hb : b2 ≤ L.length) (e : aOf M = heapSort ltInt (aOf L) a2 b2) : PermIn a b (aOf xs) (aOf M) ∧ SortedIn ltInt a b (aOf M) := by
  have h1 := heapSort_holds swo_ltInt (aOf L) a2 b2 hab (by rw [aSize]; exact hb)
  rw [← e] at h1; exact h _ h1.1 h1.2
theorem perm_rev {a2 b2 : Nat} {L M N : List Int} (h : PermIn a2 b2 (aOf L) (aOf M)) (hab : a2 ≤ b2) (hb : b2 ≤ M.length) (e : aOf N = reverseRange (aOf M) a2 b2) : PermIn a2 b2 (aOf L) (aOf N) := by
  have h1 := reverseRange_holds (aOf M) a2 b2 hab (by rw [aSize]; exact hb)
  rw [← e] at h1; exact permIn_trans _ _ _ _ _ h h1
theorem pins_all {a2 b2 : Nat} {M N : List Int} (hab : a2 < b2) (hb : b2 ≤ M.length) (hB : Below ltInt a2 b2 (aOf M)) (e : aOf N = (partialInsertionSort ltInt (aOf M) a2 b2).1) : PermIn a2 b2 (aOf M) (aOf N) ∧ ((partialInsertionSort ltInt (aOf M) a2 b2).2 = true → SortedIn ltInt a2 b2 (aOf N)) := by
  have h1 := partialInsertionSort_holds swo_ltInt (aOf M) a2 b2 hab (by rw [aSize]; exact hb) hB
  rw [← e] at h1; exact h1
theorem fin_eq {a b a2 b2 pv : Nat} {xs L N : List Int} {x y : Int} (h : FinS a b a2 b2 xs L) (h0 : 0 < a2) (hp1 : a2 ≤ pv) (hp2 : pv < b2) (hb : b2 ≤ L.length) (hB : Below ltInt a2 b2 (aOf L)) (hx : L[a2 - 1]? = some x) (hy : L[pv]? = some y) (hlt : decide (x < y) = false) (e : aOf N = (partitionEqual ltInt (aOf L) a2 b2 pv).2) :
    (a2 < (partitionEqual ltInt (aOf L) a2 b2 pv).1 ∧ (partitionEqual ltInt (aOf L) a2 b2 pv).1 ≤ b2) ∧ Below ltInt (partitionEqual ltInt (aOf L) a2 b2 pv).1 b2 (aOf N) ∧ FinS a b (partitionEqual ltInt (aOf L) a2 b2 pv).1 b2 xs N := by
  obtain ⟨h1, h2, _, h4, h5⟩ := round_eq swo_ltInt (partitionEqual_holds _) h0 hp1 hp2 (by rw [aSize]; exact hb) hB (by rw [aGet hx, aGet hy]; exact hlt) (show partitionEqual ltInt (aOf L) a2 b2 pv = ((partitionEqual ltInt (aOf L) a2 b2 pv).1, aOf N) from Prod.ext rfl e.symm)
  exact ⟨⟨h1, h2⟩, h4, fun R hR hs => h R (h5 R hR hs).1 (h5 R hR hs).2⟩
theorem fin_part {a b a2 b2 pv mid : Nat} {xs L N : List Int} (h : FinS a b a2 b2 xs L) (hp1 : a2 ≤ pv) (hp2 : pv < b2) (hb : b2 ≤ L.length) (hB : Below ltInt a2 b2 (aOf L)) (hm : (partition ltInt (aOf L) a2 b2 pv).1 = mid) (e : aOf N = (partition ltInt (aOf L) a2 b2 pv).2.2) :
    (a2 ≤ mid ∧ mid < b2) ∧ Below ltInt a2 mid (aOf N) ∧ Below ltInt (mid + 1) b2 (aOf N) ∧
    (∀ M : List Int, PermIn a2 mid (aOf N) (aOf M) ∧ SortedIn ltInt a2 mid (aOf M) → Below ltInt (mid + 1) b2 (aOf M) ∧ FinS a b (mid + 1) b2 xs M) ∧
    (∀ M : List Int, PermIn (mid + 1) b2 (aOf N) (aOf M) ∧ SortedIn ltInt (mid + 1) b2 (aOf M) → Below ltInt a2 mid (aOf M) ∧ FinS a b a2 mid xs M) := by
  obtain ⟨h1, h2, _, h4, h5, h6, h7⟩ := round_part swo_ltInt (partition_holds _) (ap := (partition ltInt (aOf L) a2 b2 pv).2.1) hp1 hp2 (by rw [aSize]; exact hb) hB (show partition ltInt (aOf L) a2 b2 pv = (mid, (partition ltInt (aOf L) a2 b2 pv).2.1, aOf N) from Prod.ext hm (Prod.ext rfl e.symm))
  refine ⟨⟨h1, h2⟩, h4, h5, fun M hM => ?_, fun M hM => ?_⟩
  · obtain ⟨q1, q2⟩ := h6 _ hM.1 hM.2; exact ⟨q1, fun R hR hs => h R (q2 R hR hs).1 (q2 R hR hs).2⟩
  · obtain ⟨q1, q2⟩ := h7 _ hM.1 hM.2; exact ⟨q1, fun R hR hs => h R (q2 R hR hs).1 (q2 R hR hs).2⟩
def PdqC (k : Nat) : Prop := ∀ (A : Option Addr) (c n : Nat) (xs : List Int), xs.length = n → ∀ (a b : Nat) (lim : Int) (w : World), w.ownsRow 0 44 1 (.slice A n c) n (xs.flatMap (Go.Tw.encI .u32)) → n ≤ 1099511627776 → a ≤ b → b ≤ n → b - a ≤ k → Below ltInt a b (aOf xs) →
  Calls Try.prog 66 #[.slice A n c, .int .i64 (a : Int), .int .i64 (b : Int), .int .i64 lim] w fun e w' => ∃ ys : List Int, e = .returned (.tuple #[]) ∧ Fr w w' (blk (.slice A n c)) ∧ w'.ownsRow 0 44 1 (.slice A n c) n (ys.flatMap (Go.Tw.encI .u32)) ∧ (PermIn a b (aOf xs) (aOf ys) ∧ SortedIn ltInt a b (aOf ys))
theorem blk_oneS {A : Option Addr} {n c b off : Nat} (h : A = some ⟨b, off, none⟩) : b ∈ blk (.slice A n c) := by subst h; simp [blk, Value.ownBlock]
set_option maxHeartbeats 2000000 in
theorem pdq_step (k : Nat) (IH : ∀ j, j < k → PdqC j) (A : Option Addr) (c : Nat) (xs : List Int) (a b : Nat) (lim : Int)  (w : World) (hown : w.ownsRow 0 44 1 (.slice A xs.length c) xs.length (xs.flatMap (Go.Tw.encI .u32))) (hlen : xs.length ≤ 1099511627776) (hab : a ≤ b) (hb : b ≤ xs.length) (hk : b - a ≤ k) (hB : Below ltInt a b (aOf xs)) : Calls Try.prog 66 #[.slice A xs.length c, .int .i64 (a : Int), .int .i64 (b : Int), .int .i64 lim] w fun e w' => ∃ ys : List Int, e = .returned (.tuple #[]) ∧ Fr w w' (blk (.slice A xs.length c)) ∧ w'.ownsRow 0 44 1 (.slice A xs.length c) xs.length (ys.flatMap (Go.Tw.encI .u32)) ∧ (PermIn a b (aOf xs) (aOf ys) ∧ SortedIn ltInt a b (aOf ys)) := by
 refine enterD (n := 134) Try.func66 rfl rfl (Nat.le_of_ble_eq_true rfl) ?_
 intro Q0 hN hret hret'
 have hcc_ := own_le hown
 have hC := Cx.start1 w (own_lt hown)
 have hLs_ := own_count (Go.Tw.encI_len .u32) (by decide) hown
 refine WCs (fun K1 hK2 => ?_)
 refine WCg (WLq 1 [(8, .bool true)] (WLd rfl (QXn (hK2 _ _ ?_))))
 refine WCs (fun K3 hK4 => ?_)
 refine WCg (WLq 1 [(9, .bool true)] (WLd rfl (QXn (hK4 _ _ ?_))))
 refine WC.block ?_
 refine WC.loop (fun m_ E_ w_ => ∃ (a2 b2 : Nat) (lim2 : Int) (L : List Int) (wb wp : Bool), m_ = b2 - a2 ∧ E_ = [(0, .slice A xs.length c), (1, .int .i64 (a2 : Int)), (2, .int .i64 (b2 : Int)), (3, .int .i64 lim2), (8, .bool wb), (9, .bool wp)] ∧ Cx w (blk (.slice A xs.length c)) w_ [] [blk (.slice A xs.length c)] ∧ World.ownsRow w_ 0 44 1 (.slice A xs.length c) xs.length (L.flatMap (Go.Tw.encI .u32)) ∧ ((a2 ≤ b2 ∧ b2 ≤ xs.length ∧ b2 - a2 ≤ b - a) ∧ L.length = xs.length ∧ Below ltInt a2 b2 (aOf L) ∧ FinS a b a2 b2 xs L)) ⟨_, _, ⟨a, b, lim, xs, true, true, rfl, rfl, hC, hown, ⟨hab, hb, Nat.le_refl _⟩, rfl, hB, fin_refl _ _ _⟩, sub_of ⟨rfl, rfl, rfl, rfl, rfl, rfl, trivial⟩⟩ (fun m8 E_ w9 K5 hK6 hI7 => ?_)
 obtain ⟨a2, b2, lim2, L, wb, wp, rfl, rfl, aw, hrow, ⟨hi1, hi2, hi3⟩, hL, hbel, hfin⟩ := hI7
 refine WC.block ?_
 refine WCs (fun cR aS => ?_)
 refine WCg (WLq 3 [(21, .int .i64 (IntKind.i64.wrap ((b2 : Int) - (a2 : Int)))), (20, .int .i64 (a2 : Int)), (19, .int .i64 (b2 : Int))] ?_)
 refine WLt (show (.int .i64 (IntKind.i64.wrap ((b2 : Int) - (a2 : Int))) : Value) = .int .i64 ((b2 - a2 : Nat) : Int) from by rw [wrap_in_i64 _ (by omega) (by omega)] <;> first | rfl | (congr 1; done) | (congr 1; omega)) ?_
 refine WLq 1 [(10, .int .i64 ((b2 - a2 : Nat) : Int))] (WLd rfl (QXn (aS _ _ ?_)))
 refine WCs (fun cS aT => ?_)
 refine WCs (fun cT aU => ?_)
 refine WCg (WLq 2 [(23, .bool (decide (((b2 - a2 : Nat) : Int) ≤ 12))), (22, .int .i64 ((b2 - a2 : Nat) : Int))] (WLd rfl (QXn (aU _ _ ?_))))
 refine WCa 23 (decide (((b2 - a2 : Nat) : Int) ≤ 12)) rfl (fun aL => ?_) (fun aL => ?_)
 ·
  have co : ((b2 - a2 : Nat) : Int) ≤ 12 := by have q_ := of_decide_eq_true aL; omega
  refine WCt rfl ?_
  refine WCs (fun cU bK => ?_)
  refine WCg (WLq 3 [(26, .int .i64 (b2 : Int)), (25, .int .i64 (a2 : Int)), (24, .slice A xs.length c)] ?_)
  refine WLc rfl rfl rfl rfl rfl (by kernel_rfl) (ins_n A c xs.length L (own_count (Go.Tw.encI_len .u32) (by decide) hrow) a2 b2 w9 hrow hlen (by omega) (by omega)) ?_
  rintro _ cV ⟨ys21, rfl, bL, aM, bM⟩
  have bN := aw.callF 0 rfl bL (fun _ h_ => .inl h_) (own_lt aM)
  have cp := own_count (Go.Tw.encI_len .u32) (by decide) aM
  refine ⟨_, rfl, ?_⟩
  refine WLd rfl (QXn (bK _ _ ?_))
  refine WC.ret ?_
  refine QXr ?_
  refine QXk ?_
  refine QXr ?_
  refine QXk ?_
  refine (hret _ _ _ rfl ?_).1
  exact ⟨_, rfl, bN.fr, aM, fin_ins hfin (by omega) (by omega) bM⟩
 ·
  have co : (12 : Int) < ((b2 - a2 : Nat) : Int) := by have q_ := of_decide_eq_false aL; omega
  refine WCf rfl (WC.skip (QXn (aT _ _ ?_)))
  refine WCs (fun cW aV => ?_)
  refine WCs (fun cX aW => ?_)
  refine WCg (WLq 2 [(29, .bool (lim2 == 0)), (28, .int .i64 lim2)] (WLd rfl (QXn (aW _ _ ?_))))
  refine WCa 29 (lim2 == 0) rfl (fun aN => ?_) (fun aN => ?_)
  ·
   have cq : lim2 = 0 := by simpa using aN
   refine WCt rfl ?_
   refine WCs (fun cY bO => ?_)
   refine WCg (WLq 3 [(32, .int .i64 (b2 : Int)), (31, .int .i64 (a2 : Int)), (30, .slice A xs.length c)] ?_)
   refine WLc rfl rfl rfl rfl rfl (by kernel_rfl) (heap_n A c xs.length L (own_count (Go.Tw.encI_len .u32) (by decide) hrow) a2 b2 w9 hrow hlen (by omega) (by omega)) ?_
   rintro _ cZ ⟨ys35, rfl, bP, aO, bQ⟩
   have bR := aw.callF 0 rfl bP (fun _ h_ => .inl h_) (own_lt aO)
   have cr := own_count (Go.Tw.encI_len .u32) (by decide) aO
   refine ⟨_, rfl, ?_⟩
   refine WLd rfl (QXn (bO _ _ ?_))
   refine WC.ret ?_
   refine QXr ?_
   refine QXk ?_
   refine QXr ?_
   refine QXk ?_
   refine (hret _ _ _ rfl ?_).1
   exact ⟨_, rfl, bR.fr, aO, fin_heap hfin (by omega) (by omega) bQ⟩
  ·
   have cq : ¬ (lim2 = 0) := by simpa using aN
   refine WCf rfl (WC.skip (QXn (aV _ _ ?_)))
   refine WC.seqI (fun E_ w_ => ∃ (L1 : List Int) (lim1 : Int), E_ = [(0, .slice A xs.length c), (1, .int .i64 (a2 : Int)), (2, .int .i64 (b2 : Int)), (3, .int .i64 lim1), (8, .bool wb), (9, .bool wp), (10, .int .i64 ((b2 - a2 : Nat) : Int))] ∧ Cx w (blk (.slice A xs.length c)) w_ [] [blk (.slice A xs.length c)] ∧ World.ownsRow w_ 0 44 1 (.slice A xs.length c) xs.length (L1.flatMap (Go.Tw.encI .u32)) ∧ (L1.length = xs.length ∧ PermIn a2 b2 (aOf L) (aOf L1))) (fun c0 aX => ?_) ?_
   ·
    refine WCs (fun c1 bS => ?_)
    refine WCg (WLq 2 [(35, .bool !wb), (34, .bool wb)] (WLd rfl (QXn (bS _ _ ?_))))
    refine WCa 35 (!wb) rfl (fun ak => ?_) (fun ak => ?_)
    ·
     have cs : wb = false := by first | (simpa only [Bool.not_eq_true', Bool.not_eq_false'] using ak) | simpa using ak
     refine WCt rfl ?_
     refine WCs (fun c2 bT => ?_)
     refine WCg (WLq 3 [(38, .int .i64 (b2 : Int)), (37, .int .i64 (a2 : Int)), (36, .slice A xs.length c)] ?_)
     refine WLc rfl rfl rfl rfl rfl (by kernel_rfl) (brk_n A c xs.length L (own_count (Go.Tw.encI_len .u32) (by decide) hrow) a2 b2 w9 hrow hlen (by omega) (by omega)) ?_
     rintro _ c3 ⟨ys52, rfl, bU, ax, bV⟩
     have bW := aw.callF 0 rfl bU (fun _ h_ => .inl h_) (own_lt ax)
     have ct := own_count (Go.Tw.encI_len .u32) (by decide) ax
     refine ⟨_, rfl, ?_⟩
     refine WLd rfl (QXn (bT _ _ ?_))
     refine WCg (WLq 3 [(3, .int .i64 (IntKind.i64.wrap (lim2 - 1))), (41, .int .i64 (IntKind.i64.wrap (lim2 - 1))), (40, .int .i64 lim2)] ?_)
     refine WLd rfl ?_
     refine QXn ?_
     have bX := bW.pickM [] [0] (by decide) rfl rfl
     exact fun a_ ha_ => aX _ _ ⟨ys52, (IntKind.i64.wrap (lim2 - 1)), rfl, bX, ax, (own_count (Go.Tw.encI_len .u32) (by decide) ax), bV⟩ a_ (ha_.weaken (sub_of ⟨rfl, rfl, rfl, rfl, rfl, rfl, rfl, trivial⟩))
    ·
     have cs : wb = true := by first | (simpa only [Bool.not_eq_true', Bool.not_eq_false'] using ak) | simpa using ak
     refine WCf rfl (WC.skip ?_)
     refine QXn ?_
     have bY := aw.pickM [] [0] (by decide) rfl rfl
     exact fun a_ ha_ => aX _ _ ⟨L, lim2, rfl, bY, hrow, hL, permIn_refl _ _ _⟩ a_ (ha_.weaken (sub_of ⟨rfl, rfl, rfl, rfl, rfl, rfl, rfl, trivial⟩))
   rintro E_ cu ⟨L1, lim1, rfl, bZ, hrow1, hL1, hp1⟩
   refine WCs (fun c4 aY => ?_)
   refine WCg (WLq 3 [(45, .int .i64 (b2 : Int)), (44, .int .i64 (a2 : Int)), (43, .slice A xs.length c)] ?_)
   refine WLc rfl rfl rfl rfl rfl (by kernel_rfl) (piv_n A c xs.length L1 hL1 a2 b2 cu (own_rd hrow1 (Go.Tw.encI_len _) (by decide)) hlen (fun b_ off_ e_ => own_lt hrow1 b_ (blk_oneS e_)) (by omega) (by omega)) ?_
   rintro _ cv ⟨q, hh, rfl, aZ, hq1, hq2⟩
   have a0 := bZ.call aZ
   refine ⟨_, rfl, ?_⟩
   have aP := own_fr hrow1 aZ (by simp)
   refine WLq 5 [(12, .int .i64 hh), (11, .int .i64 (q : Int)), (48, .int .i64 hh), (47, .int .i64 (q : Int)), (42, .tuple #[.int .i64 (q : Int), .int .i64 hh])] (WLd rfl (QXn (aY _ _ ?_)))
   refine WC.seqI (fun E_ w_ => ∃ (L2 : List Int) (pv : Nat) (h2 : Int), E_ = [(0, .slice A xs.length c), (1, .int .i64 (a2 : Int)), (2, .int .i64 (b2 : Int)), (3, .int .i64 lim1), (8, .bool wb), (9, .bool wp), (10, .int .i64 ((b2 - a2 : Nat) : Int)), (11, .int .i64 (pv : Int)), (12, .int .i64 h2)] ∧ Cx w (blk (.slice A xs.length c)) w_ [] [blk (.slice A xs.length c)] ∧ World.ownsRow w_ 0 44 1 (.slice A xs.length c) xs.length (L2.flatMap (Go.Tw.encI .u32)) ∧ (L2.length = xs.length ∧ PermIn a2 b2 (aOf L) (aOf L2) ∧ (a2 ≤ pv ∧ pv < b2))) (fun c5 a1 => ?_) ?_
   ·
    refine WCs (fun c6 b0 => ?_)
    refine WCg (WLq 2 [(50, .bool (hh == 2)), (49, .int .i64 hh)] (WLd rfl (QXn (b0 _ _ ?_))))
    refine WCa 50 (hh == 2) rfl (fun aQ => ?_) (fun aQ => ?_)
    ·
     have cw : hh = 2 := by simpa using aQ
     refine WCt rfl ?_
     refine WCs (fun c7 b1 => ?_)
     refine WCg (WLq 3 [(53, .int .i64 (b2 : Int)), (52, .int .i64 (a2 : Int)), (51, .slice A xs.length c)] ?_)
     refine WLc rfl rfl rfl rfl rfl (by kernel_rfl) (rev_n A c xs.length L1 (own_count (Go.Tw.encI_len .u32) (by decide) aP) a2 b2 cv aP hlen (by omega) (by omega)) ?_
     rintro _ c8 ⟨ys78, rfl, b3, ay, b4⟩
     have b5 := a0.callF 0 rfl b3 (fun _ h_ => .inl h_) (own_lt ay)
     have cx := own_count (Go.Tw.encI_len .u32) (by decide) ay
     refine ⟨_, rfl, ?_⟩
     refine WLd rfl (QXn (b1 _ _ ?_))
     refine WCs (fun c9 b6 => ?_)
     refine WCg (WLq 2 [(56, .int .i64 (IntKind.i64.wrap ((b2 : Int) - 1))), (55, .int .i64 (b2 : Int))] ?_)
     refine WLt (show (.int .i64 (IntKind.i64.wrap ((b2 : Int) - 1)) : Value) = .int .i64 ((b2 - 1 : Nat) : Int) from by rw [wrap_in_i64 _ (by omega) (by omega)] <;> first | rfl | (congr 1; done) | (congr 1; omega)) ?_
     refine WLq 3 [(59, .int .i64 (IntKind.i64.wrap ((q : Int) - (a2 : Int)))), (58, .int .i64 (a2 : Int)), (57, .int .i64 (q : Int))] ?_
     refine WLt (show (.int .i64 (IntKind.i64.wrap ((q : Int) - (a2 : Int))) : Value) = .int .i64 ((q - a2 : Nat) : Int) from by rw [wrap_in_i64 _ (by omega) (by omega)] <;> first | rfl | (congr 1; done) | (congr 1; omega)) ?_
     refine WLq 1 [(60, .int .i64 (IntKind.i64.wrap (((b2 - 1 : Nat) : Int) - ((q - a2 : Nat) : Int))))] ?_
     refine WLt (show (.int .i64 (IntKind.i64.wrap (((b2 - 1 : Nat) : Int) - ((q - a2 : Nat) : Int))) : Value) = .int .i64 ((b2 - 1 - (q - a2) : Nat) : Int) from by rw [wrap_in_i64 _ (by omega) (by omega)] <;> first | rfl | (congr 1; done) | (congr 1; omega)) ?_
     refine WLq 1 [(11, .int .i64 ((b2 - 1 - (q - a2) : Nat) : Int))] (WLd rfl (QXn (b6 _ _ ?_)))
     refine WCg (WLq 1 [(12, .int .i64 1)] ?_)
     refine WLd rfl ?_
     refine QXn ?_
     have b7 := b5.pickM [] [0] (by decide) rfl rfl
     exact fun a_ ha_ => a1 _ _ ⟨ys78, (b2 - 1 - (q - a2)), 1, rfl, b7, ay, (own_count (Go.Tw.encI_len .u32) (by decide) ay), perm_rev hp1 (by omega) (by omega) b4, ⟨by omega, by omega⟩⟩ a_ (ha_.weaken (sub_of ⟨rfl, rfl, rfl, rfl, rfl, rfl, rfl, rfl, rfl, trivial⟩))
    ·
     have cw : ¬ (hh = 2) := by simpa using aQ
     refine WCf rfl (WC.skip ?_)
     refine QXn ?_
     have b8 := a0.pickM [] [0] (by decide) rfl rfl
     exact fun a_ ha_ => a1 _ _ ⟨L1, q, hh, rfl, b8, aP, hL1, hp1, ⟨by omega, by omega⟩⟩ a_ (ha_.weaken (sub_of ⟨rfl, rfl, rfl, rfl, rfl, rfl, rfl, rfl, rfl, trivial⟩))
   rintro E_ cy ⟨L2, pv, h2, rfl, az, hrow2, hL2, hp2, ⟨hv1, hv2⟩⟩
   refine WC.seqI (fun E_ w_ => ∃ (L3 : List Int), E_ = [(0, .slice A xs.length c), (1, .int .i64 (a2 : Int)), (2, .int .i64 (b2 : Int)), (3, .int .i64 lim1), (8, .bool wb), (9, .bool wp), (10, .int .i64 ((b2 - a2 : Nat) : Int)), (11, .int .i64 (pv : Int))] ∧ Cx w (blk (.slice A xs.length c)) w_ [] [blk (.slice A xs.length c)] ∧ World.ownsRow w_ 0 44 1 (.slice A xs.length c) xs.length (L3.flatMap (Go.Tw.encI .u32)) ∧ (L3.length = xs.length ∧ PermIn a2 b2 (aOf L) (aOf L3))) (fun da al => ?_) ?_
   ·
    refine WCs (fun db aA => ?_)
    refine WCg (WLq 2 [(62, .bool wb), (61, .bool wb)] ?_)
    refine WLa 62 (wb) rfl (fun b9 => ?_) (fun b9 => ?_)
    ·
     refine WLq 3 [(65, .bool wp), (64, .bool wp), (63, .bool wp)] ?_
     refine WLa 65 (wp) rfl (fun ca => ?_) (fun ca => ?_)
     ·
      refine WLq 3 [(68, .bool (h2 == 1)), (67, .bool (h2 == 1)), (66, .int .i64 h2)] (WLd rfl (QXn (aA _ _ ?_)))
      refine WCa 68 (h2 == 1) rfl (fun aR => ?_) (fun aR => ?_)
      ·
       have cz : h2 = 1 := by simpa using aR
       refine WCt rfl ?_
       refine WCs (fun dc a3 => ?_)
       refine WCg (WLq 3 [(71, .int .i64 (b2 : Int)), (70, .int .i64 (a2 : Int)), (69, .slice A xs.length c)] ?_)
       refine WLc rfl rfl rfl rfl rfl (by kernel_rfl) (pins_n A c xs.length L2 (own_count (Go.Tw.encI_len .u32) (by decide) hrow2) a2 b2 cy hrow2 hlen (by omega) (by omega)) ?_
       rintro _ cA ⟨ys101, rfl, a4, ad, aB⟩
       have aC := az.callF 0 rfl a4 (fun _ h_ => .inl h_) (own_lt ad)
       have ch := own_count (Go.Tw.encI_len .u32) (by decide) ad
       refine ⟨_, rfl, ?_⟩
       refine WLd rfl (QXn (a3 _ _ ?_))
       refine WCa 72 ((partialInsertionSort ltInt (aOf L2) a2 b2).2) rfl (fun aD => ?_) (fun aD => ?_)
       ·
        refine WCt rfl ?_
        refine WC.ret ?_
        refine QXr ?_
        refine QXk ?_
        refine QXr ?_
        refine QXk ?_
        refine (hret _ _ _ rfl ?_).1
        clear hN hret hret' a3 aA al aY aW aV aU aT aS hK4 hK2
        have hpa_ := pins_all (by omega) (by omega) (bel_perm hbel (by omega) hp2) aB
        exact ⟨_, rfl, aC.fr, ad, fin_perm hfin hp2 _ hpa_.1 (hpa_.2 aD)⟩
       ·
        refine WCf rfl (WC.skip ?_)
        refine QXn ?_
        have a5 := aC.pickM [] [0] (by decide) rfl rfl
        exact fun a_ ha_ => al _ _ ⟨ys101, rfl, a5, ad, (own_count (Go.Tw.encI_len .u32) (by decide) ad), permIn_trans _ _ _ _ _ hp2 (pins_all (by omega) (by omega) (bel_perm hbel (by omega) hp2) aB).1⟩ a_ (ha_.weaken (sub_of ⟨rfl, rfl, rfl, rfl, rfl, rfl, rfl, rfl, trivial⟩))
      ·
       have cz : ¬ (h2 = 1) := by simpa using aR
       refine WCf rfl (WC.skip ?_)
       refine QXn ?_
       have a6 := az.pickM [] [0] (by decide) rfl rfl
       exact fun a_ ha_ => al _ _ ⟨L2, rfl, a6, hrow2, hL2, hp2⟩ a_ (ha_.weaken (sub_of ⟨rfl, rfl, rfl, rfl, rfl, rfl, rfl, rfl, trivial⟩))
     ·
      refine WLq 3 [(68, .bool false), (67, undef), (66, undef)] (WLd rfl (QXn (aA _ _ ?_)))
      refine WCf rfl (WC.skip ?_)
      refine QXn ?_
      have a7 := az.pickM [] [0] (by decide) rfl rfl
      exact fun a_ ha_ => al _ _ ⟨L2, rfl, a7, hrow2, hL2, hp2⟩ a_ (ha_.weaken (sub_of ⟨rfl, rfl, rfl, rfl, rfl, rfl, rfl, rfl, trivial⟩))
    ·
     refine WLq 6 [(68, .bool false), (67, undef), (66, undef), (65, .bool false), (64, .bool false), (63, undef)] (WLd rfl (QXn (aA _ _ ?_)))
     refine WCf rfl (WC.skip ?_)
     refine QXn ?_
     have a8 := az.pickM [] [0] (by decide) rfl rfl
     exact fun a_ ha_ => al _ _ ⟨L2, rfl, a8, hrow2, hL2, hp2⟩ a_ (ha_.weaken (sub_of ⟨rfl, rfl, rfl, rfl, rfl, rfl, rfl, rfl, trivial⟩))
   rintro E_ dd ⟨L3, rfl, cb, hrow3, hL3, hp3⟩
   have hfin3 := fin_perm hfin hp3
   have hbel3 := bel_perm hbel (by omega) hp3
   refine WC.seqI (fun E_ w_ => E_ = [(0, .slice A xs.length c), (1, .int .i64 (a2 : Int)), (2, .int .i64 (b2 : Int)), (3, .int .i64 lim1), (8, .bool wb), (9, .bool wp), (10, .int .i64 ((b2 - a2 : Nat) : Int)), (11, .int .i64 (pv : Int))] ∧ Cx w (blk (.slice A xs.length c)) w_ [] [blk (.slice A xs.length c)] ∧ World.ownsRow w_ 0 44 1 (.slice A xs.length c) xs.length (L3.flatMap (Go.Tw.encI .u32)) ∧ (True)) (fun cB aE => ?_) ?_
   ·
    refine WCs (fun cC aF => ?_)
    refine WC.drawC cb [] (by kernel_rfl) (fun cc a9 aG aa => ?_)
    have ab := own_fr hrow3 a9 (by simp)
    refine WDq (NPt (NPt (NPb (NPt (NPb hN))))) 0 73 (.int .i64 (a2 : Int)) aa ?_
    refine WDq (NPt (NPt (NPb (NPt (NPb hN))))) 1 74 (.bool (decide ((a2 : Int) > 0))) aa ?_
    refine WDq (NPt (NPt (NPb (NPt (NPb hN))))) 2 75 (.bool (decide ((a2 : Int) > 0))) aa ?_
    refine WDa 75 (decide ((a2 : Int) > 0)) rfl (fun am => ?_) (fun am => ?_)
    ·
     have cd : (0 : Int) < (a2 : Int) := by have q_ := of_decide_eq_true am; omega
     refine WDq (NPt (NPt (NPb (NPt (NPb hN))))) 3 76 (.slice A xs.length c) aa ?_
     refine WDq (NPt (NPt (NPb (NPt (NPb hN))))) 4 77 (.int .i64 (a2 : Int)) aa ?_
     refine WDq (NPt (NPt (NPb (NPt (NPb hN))))) 5 78 (.int .i64 (IntKind.i64.wrap ((a2 : Int) - 1))) aa ?_
     refine WD.recast (show (.int .i64 (IntKind.i64.wrap ((a2 : Int) - 1)) : Value) = .int .i64 ((a2 - 1 : Nat) : Int) from by rw [wrap_in_i64 _ (by omega) (by omega)] <;> first | rfl | (congr 1; done) | (congr 1; omega)) ?_
     have ci := own_count (Go.Tw.encI_len _) (by decide) ab
     obtain ⟨af, an⟩ := get_some (xs := L3) (i := (a2 - 1)) (by omega)
     obtain ⟨b127, aH⟩ := own_addr (by decide) (Go.Tw.encI_len _) ab an
     refine WDi (NPt (NPt (NPb (NPt (NPb hN))))) 6 A xs.length c 79 .i64 ((a2 - 1 : Nat) : Int) b127 0 (a2 - 1) 1 (by kernel_rfl) (by kernel_rfl) aH (by omega) (by omega) (a2 - 1) (by first | (simp; done) | omega) aa ?_
     refine WDq (NPt (NPt (NPb (NPt (NPb hN))))) 8 81 (.slice A xs.length c) aa ?_
     refine WDq (NPt (NPt (NPb (NPt (NPb hN))))) 9 82 (.int .i64 (pv : Int)) aa ?_
     have cj := own_count (Go.Tw.encI_len _) (by decide) ab
     obtain ⟨ag, ao⟩ := get_some (xs := L3) (i := pv) (by omega)
     obtain ⟨b132, aI⟩ := own_addr (by decide) (Go.Tw.encI_len _) ab ao
     refine WDi (NPt (NPt (NPb (NPt (NPb hN))))) 10 A xs.length c 83 .i64 (pv : Int) b132 0 pv 1 (by kernel_rfl) (by kernel_rfl) aI (by omega) (by omega) pv (by first | (simp; done) | omega) aa ?_
     refine WDm (NPt (NPt (NPb (NPt (NPb hN))))) 7 44 (.pointer (some ⟨b127, (a2 - 1), none⟩)) (.int .u32 af) 80 (fun _ hS_ => run_load1 rfl (by simpa [Nat.add_assoc] using Rd.cell (own_rd (own_fr ab hS_ (by simp)) (Go.Tw.encI_len _) (by decide)) aH an 0 _ rfl)) aa ?_
     refine WDm (NPt (NPt (NPb (NPt (NPb hN))))) 11 44 (.pointer (some ⟨b132, pv, none⟩)) (.int .u32 ag) 84 (fun _ hS_ => run_load1 rfl (by simpa [Nat.add_assoc] using Rd.cell (own_rd (own_fr ab hS_ (by simp)) (Go.Tw.encI_len _) (by decide)) aI ao 0 _ rfl)) aa ?_
     refine WD.call 12 (by kernel_rfl) rfl rfl rfl rfl rfl (by kernel_rfl) (Less_ct af ag cc) ?_
     rintro _ ce ⟨rfl, aq⟩
     have ar := aa.trans aq (by simp)
     refine ⟨_, rfl, ar, ?_⟩
     have aJ := aG.call aq
     have au := own_fr ab aq (by simp)
     refine WDq (NPt (NPt (NPb (NPt (NPb hN))))) 13 86 (.bool (!(decide (af < ag)))) ar ?_
     refine WDq (NPt (NPt (NPb (NPt (NPb hN))))) 14 87 (.bool (!(decide (af < ag)))) ar ?_
     refine WD.done (by kernel_rfl) ?_
     refine QXn (aF _ _ ?_)
     refine WCa 87 (!(decide (af < ag))) rfl (fun ae => ?_) (fun ae => ?_)
     ·
      have ba : (decide (af < ag)) = false := by first | (simpa only [Bool.not_eq_true', Bool.not_eq_false'] using ae) | simpa using ae
      refine WCt rfl ?_
      refine WCs (fun cD bb => ?_)
      refine WCg (WLq 4 [(91, .int .i64 (pv : Int)), (90, .int .i64 (b2 : Int)), (89, .int .i64 (a2 : Int)), (88, .slice A xs.length c)] ?_)
      refine WLc rfl rfl rfl rfl rfl (by kernel_rfl) (peq_n A c xs.length L3 (own_count (Go.Tw.encI_len .u32) (by decide) au) a2 b2 pv ce au hlen (by omega) (by omega) (by omega)) ?_
      rintro _ cE ⟨ys144, rfl, bc, ah, bd⟩
      have be := aJ.callF 0 rfl bc (fun _ h_ => .inl h_) (own_lt ah)
      have ck := own_count (Go.Tw.encI_len .u32) (by decide) ah
      refine ⟨_, rfl, ?_⟩
      obtain ⟨⟨hm1_, hm2_⟩, hbm_, hfm_⟩ := fin_eq hfin3 (by omega) hv1 hv2 (by omega) hbel3 an ao ba bd
      refine WLq 1 [(13, .int .i64 ((partitionEqual ltInt (aOf L3) a2 b2 pv).1 : Int))] (WLd rfl (QXn (bb _ _ ?_)))
      refine WCs (fun cF bf => ?_)
      refine WCg (WLq 2 [(1, .int .i64 ((partitionEqual ltInt (aOf L3) a2 b2 pv).1 : Int)), (93, .int .i64 ((partitionEqual ltInt (aOf L3) a2 b2 pv).1 : Int))] (WLd rfl (QXn (bf _ _ ?_))))
      refine WC.exit ?_
      refine QXe ?_
      refine QX.block_hit ?_
      refine QXn ?_
      have bg := be.pick [] [0] rfl rfl
      refine fun a_ ha_ => hK6 _ _ _ ?_ ⟨(partitionEqual ltInt (aOf L3) a2 b2 pv).1, b2, lim1, ys144, wb, wp, rfl, rfl, bg, ah, ⟨by omega, by omega, by omega⟩, (own_count (Go.Tw.encI_len .u32) (by decide) ah), hbm_, hfm_⟩ a_ (ha_.weaken (sub_of ⟨rfl, rfl, rfl, rfl, rfl, rfl, trivial⟩))
      omega
     ·
      have ba : (decide (af < ag)) = true := by first | (simpa only [Bool.not_eq_true', Bool.not_eq_false'] using ae) | simpa using ae
      refine WCf rfl (WC.skip ?_)
      refine QXn ?_
      have bh := aJ.pickM [] [0] (by decide) rfl rfl
      exact fun a_ ha_ => aE _ _ ⟨rfl, bh, au, trivial⟩ a_ (ha_.weaken (sub_of ⟨rfl, rfl, rfl, rfl, rfl, rfl, rfl, rfl, trivial⟩))
    ·
     have cd : (a2 : Int) ≤ 0 := by have q_ := of_decide_eq_false am; omega
     refine WDq (NPt (NPt (NPb (NPt (NPb hN))))) 3 76 (undef) aa ?_
     refine WDq (NPt (NPt (NPb (NPt (NPb hN))))) 4 77 (undef) aa ?_
     refine WDq (NPt (NPt (NPb (NPt (NPb hN))))) 5 78 (undef) aa ?_
     refine WDq (NPt (NPt (NPb (NPt (NPb hN))))) 6 79 (undef) aa ?_
     refine WDq (NPt (NPt (NPb (NPt (NPb hN))))) 7 80 (undef) aa ?_
     refine WDq (NPt (NPt (NPb (NPt (NPb hN))))) 8 81 (undef) aa ?_
     refine WDq (NPt (NPt (NPb (NPt (NPb hN))))) 9 82 (undef) aa ?_
     refine WDq (NPt (NPt (NPb (NPt (NPb hN))))) 10 83 (undef) aa ?_
     refine WDq (NPt (NPt (NPb (NPt (NPb hN))))) 11 84 (undef) aa ?_
     refine WDq (NPt (NPt (NPb (NPt (NPb hN))))) 12 85 (undef) aa ?_
     refine WDq (NPt (NPt (NPb (NPt (NPb hN))))) 13 86 (undef) aa ?_
     refine WDq (NPt (NPt (NPb (NPt (NPb hN))))) 14 87 (.bool false) aa ?_
     refine WD.done (by kernel_rfl) ?_
     refine QXn (aF _ _ ?_)
     refine WCf rfl (WC.skip ?_)
     refine QXn ?_
     have bi := aG.pickM [] [0] (by decide) rfl rfl
     exact fun a_ ha_ => aE _ _ ⟨rfl, bi, ab, trivial⟩ a_ (ha_.weaken (sub_of ⟨rfl, rfl, rfl, rfl, rfl, rfl, rfl, rfl, trivial⟩))
   rintro E_ cf ⟨rfl, bj, row_m114, bk⟩
   refine WCs (fun cG bl => ?_)
   refine WCg (WLq 4 [(98, .int .i64 (pv : Int)), (97, .int .i64 (b2 : Int)), (96, .int .i64 (a2 : Int)), (95, .slice A xs.length c)] ?_)
   refine WLc rfl rfl rfl rfl rfl (by kernel_rfl) (prt_n A c xs.length L3 (own_count (Go.Tw.encI_len .u32) (by decide) row_m114) a2 b2 pv cf row_m114 hlen (by omega) (by omega) (by omega)) ?_
   rintro _ bm ⟨ap, ys158, rfl, bn, ac, bo⟩
   have aK := bj.callF 0 rfl bn (fun _ h_ => .inl h_) (own_lt ac)
   have cl := own_count (Go.Tw.encI_len .u32) (by decide) ac
   refine ⟨_, rfl, ?_⟩
   obtain ⟨mid, hmid⟩ : ∃ m_ : Nat, (partition ltInt (aOf L3) a2 b2 pv).1 = m_ := ⟨_, rfl⟩
   refine WLt (show (.tuple #[.int .i64 ((partition ltInt (aOf L3) a2 b2 pv).1 : Int), .bool ap] : Value) = .tuple #[.int .i64 (mid : Int), .bool ap] from by rw [hmid]) ?_
   obtain ⟨⟨hm1_, hm2_⟩, hbl_, hbr_, hfl_, hfr_⟩ := fin_part hfin3 hv1 hv2 (by omega) hbel3 hmid bo
   refine WLq 5 [(15, .bool ap), (14, .int .i64 (mid : Int)), (101, .bool ap), (100, .int .i64 (mid : Int)), (94, .tuple #[.int .i64 (mid : Int), .bool ap])] (WLd rfl (QXn (bl _ _ ?_)))
   refine WCs (fun cH bp => ?_)
   refine WCg (WLq 2 [(9, .bool ap), (102, .bool ap)] (WLd rfl (QXn (bp _ _ ?_))))
   refine WCs (fun cI bq => ?_)
   refine WCg (WLq 3 [(105, .int .i64 (IntKind.i64.wrap ((mid : Int) - (a2 : Int)))), (104, .int .i64 (a2 : Int)), (103, .int .i64 (mid : Int))] ?_)
   refine WLt (show (.int .i64 (IntKind.i64.wrap ((mid : Int) - (a2 : Int))) : Value) = .int .i64 ((mid - a2 : Nat) : Int) from by rw [wrap_in_i64 _ (by omega) (by omega)] <;> first | rfl | (congr 1; done) | (congr 1; omega)) ?_
   refine WLq 3 [(108, .int .i64 (IntKind.i64.wrap ((b2 : Int) - (mid : Int)))), (107, .int .i64 (mid : Int)), (106, .int .i64 (b2 : Int))] ?_
   refine WLt (show (.int .i64 (IntKind.i64.wrap ((b2 : Int) - (mid : Int))) : Value) = .int .i64 ((b2 - mid : Nat) : Int) from by rw [wrap_in_i64 _ (by omega) (by omega)] <;> first | rfl | (congr 1; done) | (congr 1; omega)) ?_
   refine WLq 2 [(17, .int .i64 ((b2 - mid : Nat) : Int)), (16, .int .i64 ((mid - a2 : Nat) : Int))] (WLd rfl (QXn (bq _ _ ?_)))
   refine WCs (fun cJ br => ?_)
   refine WCg (WLq 2 [(110, .int .i64 (IntKind.i64.wrap (Int.tdiv ((b2 - a2 : Nat) : Int) 8))), (109, .int .i64 ((b2 - a2 : Nat) : Int))] ?_)
   refine WLt (show (.int .i64 (IntKind.i64.wrap (Int.tdiv ((b2 - a2 : Nat) : Int) 8)) : Value) = .int .i64 (((b2 - a2) / 8 : Nat) : Int) from by rw [Int.tdiv_eq_ediv_of_nonneg (by omega), wrap_in_i64 _ (by omega) (by omega)] <;> first | rfl | (congr 1; done) | (congr 1; omega)) ?_
   refine WLq 1 [(18, .int .i64 (((b2 - a2) / 8 : Nat) : Int))] (WLd rfl (QXn (br _ _ ?_)))
   refine WCs (fun cK bs => ?_)
   refine WCg (WLq 3 [(113, .bool (decide (((mid - a2 : Nat) : Int) < ((b2 - mid : Nat) : Int)))), (112, .int .i64 ((b2 - mid : Nat) : Int)), (111, .int .i64 ((mid - a2 : Nat) : Int))] (WLd rfl (QXn (bs _ _ ?_))))
   refine WCa 113 (decide (((mid - a2 : Nat) : Int) < ((b2 - mid : Nat) : Int))) rfl (fun av => ?_) (fun av => ?_)
   ·
    have cg : ((mid - a2 : Nat) : Int) < ((b2 - mid : Nat) : Int) := by have q_ := of_decide_eq_true av; omega
    refine WCt rfl ?_
    refine WCs (fun cL bt => ?_)
    refine WCg (WLq 4 [(8, .bool (decide (((mid - a2 : Nat) : Int) ≥ (((b2 - a2) / 8 : Nat) : Int)))), (116, .bool (decide (((mid - a2 : Nat) : Int) ≥ (((b2 - a2) / 8 : Nat) : Int)))), (115, .int .i64 (((b2 - a2) / 8 : Nat) : Int)), (114, .int .i64 ((mid - a2 : Nat) : Int))] (WLd rfl (QXn (bt _ _ ?_))))
    refine WCs (fun cM bu => ?_)
    refine WCg (WLq 4 [(120, .int .i64 lim1), (119, .int .i64 (mid : Int)), (118, .int .i64 (a2 : Int)), (117, .slice A xs.length c)] ?_)
    refine WLc rfl rfl rfl rfl rfl (by kernel_rfl) (IH (mid - a2) (by omega) A c xs.length ys158 (own_count (Go.Tw.encI_len .u32) (by decide) ac) a2 mid lim1 bm ac hlen (by omega) (by omega) (by omega) hbl_) ?_
    rintro _ cN ⟨ys178, rfl, bv, ai, bw⟩
    have bx := aK.callF 0 rfl bv (fun _ h_ => .inl h_) (own_lt ai)
    have cm := own_count (Go.Tw.encI_len .u32) (by decide) ai
    refine ⟨_, rfl, ?_⟩
    obtain ⟨bz, bA⟩ := hfl_ _ bw
    refine WLd rfl (QXn (bu _ _ ?_))
    refine WCg (WLq 2 [(123, .int .i64 (IntKind.i64.wrap ((mid : Int) + 1))), (122, .int .i64 (mid : Int))] ?_)
    refine WLt (show (.int .i64 (IntKind.i64.wrap ((mid : Int) + 1)) : Value) = .int .i64 ((mid + 1 : Nat) : Int) from by rw [wrap_in_i64 _ (by omega) (by omega)] <;> first | rfl | (congr 1; done) | (congr 1; omega)) ?_
    refine WLq 1 [(1, .int .i64 ((mid + 1 : Nat) : Int))] ?_
    refine WLd rfl ?_
    refine QXb ?_
    refine QXn ?_
    have bB := bx.pick [] [0] rfl rfl
    refine fun a_ ha_ => hK6 _ _ _ ?_ ⟨mid + 1, b2, lim1, ys178, (decide (((mid - a2 : Nat) : Int) ≥ (((b2 - a2) / 8 : Nat) : Int))), ap, rfl, rfl, bB, ai, ⟨by omega, by omega, by omega⟩, (own_count (Go.Tw.encI_len .u32) (by decide) ai), bz, bA⟩ a_ (ha_.weaken (sub_of ⟨rfl, rfl, rfl, rfl, rfl, rfl, trivial⟩))
    omega
   ·
    have cg : ((b2 - mid : Nat) : Int) ≤ ((mid - a2 : Nat) : Int) := by have q_ := of_decide_eq_false av; omega
    refine WCf rfl ?_
    refine WCs (fun cO bC => ?_)
    refine WCg (WLq 4 [(8, .bool (decide (((b2 - mid : Nat) : Int) ≥ (((b2 - a2) / 8 : Nat) : Int)))), (126, .bool (decide (((b2 - mid : Nat) : Int) ≥ (((b2 - a2) / 8 : Nat) : Int)))), (125, .int .i64 (((b2 - a2) / 8 : Nat) : Int)), (124, .int .i64 ((b2 - mid : Nat) : Int))] (WLd rfl (QXn (bC _ _ ?_))))
    refine WCs (fun cP bD => ?_)
    refine WCg (WLq 3 [(129, .int .i64 (IntKind.i64.wrap ((mid : Int) + 1))), (128, .int .i64 (mid : Int)), (127, .slice A xs.length c)] ?_)
    refine WLt (show (.int .i64 (IntKind.i64.wrap ((mid : Int) + 1)) : Value) = .int .i64 ((mid + 1 : Nat) : Int) from by rw [wrap_in_i64 _ (by omega) (by omega)] <;> first | rfl | (congr 1; done) | (congr 1; omega)) ?_
    refine WLq 2 [(131, .int .i64 lim1), (130, .int .i64 (b2 : Int))] ?_
    refine WLc rfl rfl rfl rfl rfl (by kernel_rfl) (IH (b2 - (mid + 1)) (by omega) A c xs.length ys158 (own_count (Go.Tw.encI_len .u32) (by decide) ac) (mid + 1) b2 lim1 bm ac hlen (by omega) (by omega) (by omega) hbr_) ?_
    rintro _ cQ ⟨ys192, rfl, bE, aj, bF⟩
    have bG := aK.callF 0 rfl bE (fun _ h_ => .inl h_) (own_lt aj)
    have cn := own_count (Go.Tw.encI_len .u32) (by decide) aj
    refine ⟨_, rfl, ?_⟩
    obtain ⟨bH, bI⟩ := hfr_ _ bF
    refine WLd rfl (QXn (bD _ _ ?_))
    refine WCg (WLq 2 [(2, .int .i64 (mid : Int)), (133, .int .i64 (mid : Int))] ?_)
    refine WLd rfl ?_
    refine QXb ?_
    refine QXn ?_
    have bJ := bG.pick [] [0] rfl rfl
    refine fun a_ ha_ => hK6 _ _ _ ?_ ⟨a2, mid, lim1, ys192, (decide (((b2 - mid : Nat) : Int) ≥ (((b2 - a2) / 8 : Nat) : Int))), ap, rfl, rfl, bJ, aj, ⟨by omega, by omega, by omega⟩, (own_count (Go.Tw.encI_len .u32) (by decide) aj), bH, bI⟩ a_ (ha_.weaken (sub_of ⟨rfl, rfl, rfl, rfl, rfl, rfl, trivial⟩))
    omega

theorem pdq_all : ∀ k, PdqC k := fun k => by
  induction k using Nat.strongRecOn with
  | _ k ih =>
    intro A c n xs hn a b lim w hown hlen hab hb hk hB
    subst hn
    exact pdq_step k ih A c xs a b lim w hown hlen hab hb hk hB
end Go.Proofs.Ytmahghppojbeoaa
