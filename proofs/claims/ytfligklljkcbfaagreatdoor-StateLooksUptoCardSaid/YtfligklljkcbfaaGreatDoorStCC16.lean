/- Contracts of functions of the program, each proved by a walk through its code; conditions stand in the statements. -/
import Derived.Test.YtfligklljkcbfaaGreatDoorStCB16
namespace Go.Proofs.YtfligklljkcbfaaGreatDoor
set_option linter.unusedSimpArgs false
set_option linter.unusedVariables false
set_option linter.unusedSectionVars false
open Go Go.RowKit Go.Tw
set_option linter.unusedVariables false
set_option maxRecDepth 20000
section
variable {α : Type} {κ : α → K3}
/-- the reference's list with one element anew, element by element -/
def wsR (κ : α → K3) : List α → α → Bool → List α
  | [], x, d => if d = true then [] else [x]
  | y :: r, x, d => if κ y = κ x then wsR κ r x d else if d = false ∧ lt3 (κ x) (κ y) = true then x :: y :: wsR κ r x true else y :: wsR κ r x d
theorem ws_step {xs : List α} {x y : α} {d : Bool} {i : Nat} (h : xs[i]? = some y) : wsR κ (xs.drop i) x d = if κ y = κ x then wsR κ (xs.drop (i + 1)) x d else if d = false ∧ lt3 (κ x) (κ y) = true then x :: y :: wsR κ (xs.drop (i + 1)) x true else y :: wsR κ (xs.drop (i + 1)) x d := by
  obtain ⟨hi, rfl⟩ := List.getElem?_eq_some_iff.1 h
  rw [List.drop_eq_getElem_cons hi, wsR]
theorem ws_named {xs O R : List α} {x y : α} {d : Bool} {i : Nat} (h : O ++ wsR κ (xs.drop i) x d = R) (he : xs[i]? = some y) (hk : κ y = κ x) : O ++ wsR κ (xs.drop (i + 1)) x d = R := by
  rw [← h, ws_step he, if_pos hk]
theorem ws_ins {xs O R : List α} {x y : α} {d : Bool} {i : Nat} (h : O ++ wsR κ (xs.drop i) x d = R) (he : xs[i]? = some y) (hk : ¬ κ y = κ x) (hd : d = false) (hl : lt3 (κ x) (κ y) = true) : O ++ [x] ++ [y] ++ wsR κ (xs.drop (i + 1)) x true = R := by
  rw [← h, ws_step he, if_neg hk, if_pos ⟨hd, hl⟩]; simp
theorem ws_app {xs O R : List α} {x y : α} {d : Bool} {i : Nat} (h : O ++ wsR κ (xs.drop i) x d = R) (he : xs[i]? = some y) (hk : ¬ κ y = κ x) (hl : d = true ∨ lt3 (κ x) (κ y) = false) : O ++ [y] ++ wsR κ (xs.drop (i + 1)) x d = R := by
  rw [← h, ws_step he, if_neg hk, if_neg (fun q => by rcases hl with hl | hl <;> simp [hl] at q)]; simp
theorem ws_end {xs O R : List α} {x : α} {d : Bool} {i : Nat} (h : O ++ wsR κ (xs.drop i) x d = R) (hi : xs.length ≤ i) : O ++ (if d = true then [] else [x]) = R := by
  rw [← h, List.drop_eq_nil_of_le hi, wsR]
theorem sort_tail {y : α} {r : List α} (h : sortK κ (y :: r)) : sortK κ r ∧ ∀ z ∈ r, lt3 (κ y) (κ z) = true := ⟨(List.pairwise_cons.1 h).2, (List.pairwise_cons.1 h).1⟩
theorem filt_all {p : α → Bool} {l : List α} (h : ∀ z ∈ l, p z = true) : l.filter p = l := List.filter_eq_self.2 h
theorem filt_none {p : α → Bool} {l : List α} (h : ∀ z ∈ l, p z = false) : l.filter p = [] := List.filter_eq_nil_iff.2 (fun z hz => by rw [h z hz]; decide)
theorem ws_true {xs : List α} {x : α} (h : sortK κ xs) : wsR κ xs x true = xs.filter (fun y => lt3 (κ y) (κ x)) ++ xs.filter (fun y => lt3 (κ x) (κ y)) := by
  induction xs with
  | nil => rfl
  | cons y r ih =>
    obtain ⟨h1, h2⟩ := sort_tail h
    rw [wsR]
    by_cases hk : κ y = κ x
    · rw [if_pos hk, ih h1, List.filter_cons, List.filter_cons, hk, lt3_irr]; rfl
    · rw [if_neg hk, if_neg (by simp), ih h1, List.filter_cons, List.filter_cons]
      cases hl : lt3 (κ y) (κ x)
      · have hg := lt3_tot hl hk
        have e : r.filter (fun y => lt3 (κ y) (κ x)) = [] := filt_none fun z hz => lt3_asym (lt3_trans hg (h2 z hz))
        rw [hg, e]; rfl
      · rw [lt3_asym hl]; rfl
theorem ws_false {xs : List α} {x : α} (h : sortK κ xs) : wsR κ xs x false = xs.filter (fun y => lt3 (κ y) (κ x)) ++ [x] ++ xs.filter (fun y => lt3 (κ x) (κ y)) := by
  induction xs with
  | nil => rfl
  | cons y r ih =>
    obtain ⟨h1, h2⟩ := sort_tail h
    rw [wsR]
    by_cases hk : κ y = κ x
    · rw [if_pos hk, ih h1, List.filter_cons, List.filter_cons, hk, lt3_irr]; rfl
    · rw [if_neg hk]
      cases hl : lt3 (κ y) (κ x)
      · have hg := lt3_tot hl hk
        have e : r.filter (fun y => lt3 (κ y) (κ x)) = [] := filt_none fun z hz => lt3_asym (lt3_trans hg (h2 z hz))
        have e2 : r.filter (fun y => lt3 (κ x) (κ y)) = r := filt_all fun z hz => lt3_trans hg (h2 z hz)
        rw [if_pos ⟨rfl, hg⟩, ws_true h1, List.filter_cons, List.filter_cons, hg, hl, e, e2]; rfl
      · rw [if_neg (by rw [lt3_asym hl]; simp), ih h1, List.filter_cons, List.filter_cons, hl, lt3_asym hl]; rfl
theorem ws_put {xs : List α} {x : α} {out : Bool} (h : sortK κ xs) : wsR κ xs x out = putK κ xs x out := by
  rw [put_cut h]
  cases out
  · rw [ws_false h]; rfl
  · rw [ws_true h]; simp
end
theorem kA_eq (a b : Int) : (a == b) = decide (kA a = kA b) := by
  rw [Bool.eq_iff_iff, decide_eq_true_eq, k3_eq, beq_iff_eq]; simp [kA]
theorem kA_lt (a b : Int) : decide (a < b) = lt3 (kA a) (kA b) := by
  rw [Bool.eq_iff_iff, decide_eq_true_eq, lt3_iff]; simp [kA]
theorem withA_ct (A : Option Addr) (c : Nat) (xs : List Int) (x : Int) (up : Bool) (w : World) (hr : Rd w 1 (Go.Tw.encI .u32) A xs) (hs : sortK kA xs) (hl : xs.length ≤ 1099511627776) : Calls Tryz.prog 56 #[.slice A xs.length c, U4 x, .bool up] w fun e w' => ∃ v, e = .returned v ∧ Fr w w' [] ∧ w'.ownsRow w.heap.size 40 1 v (putK kA xs x up).length (((putK kA xs x up).flatMap (Go.Tw.encI .u32))) := by
 refine enterD (n := 51) Tryz.func56 rfl rfl (Nat.le_of_ble_eq_true rfl) ?_
 intro Q0 hN hret hret'
 have hC := Cx.start w
 refine WCs (fun K1 hK2 => WCg (WLq 1 [(6, .slice none 0 0)] (WLd rfl (QXn (hK2 _ _ (WCs (fun K3 hK4 => WCg (WLq 1 [(7, .slice none 0 0)] (WLd rfl (QXn (hK4 _ _ (WCs (fun K5 hK6 => WCg ?_)))))))))))))
 refine WLz 2 [(8, .bool up)] (WLd rfl (QXn (hK6 _ _ (WCs (fun K7 hK8 => WCs (fun K9 aw => WCg (WLq 1 [(9, I6 0)] (WLd rfl (QXn (aw _ _ (WC.block ?_)))))))))))
 have be := hC.addNil
 refine WC.loop (fun m_ E_ w_ => ∃ (i : Nat) (d : Bool) (A5 : Option Addr) (n5 c5 : Nat) (O : List Int), m_ = xs.length - i ∧ E_ = [(0, .slice A xs.length c), (1, U4 x), (2, .bool up), (6, .slice none 0 0), (7, .slice A5 n5 c5), (8, .bool d), (9, I6 (i : Int))] ∧ Cx w [] w_ [] [blk (.slice A5 n5 c5)] ∧ World.ownsRow w_ 0 40 1 (.slice A5 n5 c5) n5 (O.flatMap (Go.Tw.encI .u32)) ∧ (i ≤ xs.length ∧ O.length ≤ 2 * i ∧ O ++ wsR kA (xs.drop i) x d = wsR kA xs x up)) ⟨_, _, ⟨0, up, none, 0, 0, [], rfl, rfl, be, own_nil _ _ _ _, Nat.zero_le _, Nat.zero_le _, rfl⟩, sub_of ⟨rfl, rfl, rfl, rfl, rfl, rfl, rfl, trivial⟩⟩ (fun m15 E_ ca cb ak bf => ?_)
 obtain ⟨i, d, A5, n5, c5, O, rfl, rfl, ab, hout, hi, hol, hws⟩ := bf
 have hon_ := own_count (Go.Tw.encI_len _) (by decide) hout
 refine WCs (fun cc ax => WCs (fun cd ay => WCg (WLz 4 [(14, .bool (decide ((i : Int) < (xs.length : Int))))] (WLd rfl (QXn (ay _ _ (WCa 14 (decide ((i : Int) < (xs.length : Int))) rfl (fun az => ?_) (fun az => ?_))))))))
 ·
  have bR : (i : Int) < (xs.length : Int) := by have q_ := of_decide_eq_true az; omega
  refine WCt rfl (WC.skip (QXn (ax _ _ (WCs (fun ce al => WC.block (WCs (fun cf bg => ?_)))))))
  refine WCs (fun cg bh => WCg (WLq 2 [(18, I6 (i : Int)), (17, .slice A xs.length c)] ?_))
  obtain ⟨aa, af⟩ := get_some (xs := xs) (i := i) (by omega)
  obtain ⟨b31, o33, ag, ah⟩ := hr.at_ _ _ af
  refine WLi A xs.length c 19 .i64 (i : Int) b31 o33 i 1 (by kernel_rfl) ag (by omega) (by omega) (o33 + i) (by first | (simp; done) | omega) (WLo 40 (P0 b31 (o33 + i)) (U4 aa) 20 (run_load1 rfl (by simpa [Nat.add_assoc] using ab.fr.cell (ah 0 _ rfl) (by simp))) (WLz 2 [(22, .bool (aa == x))] (WLt (show (.bool (aa == x) : Value) = .bool (decide (kA aa = kA x)) from congrArg Value.bool (kA_eq aa x)) (WLd rfl (QXn (bh _ _ (WCa 22 (decide (kA aa = kA x)) rfl (fun ad => ?_) (fun ad => ?_))))))))
  ·
   have bS : kA aa = kA x := of_decide_eq_true ad
   refine WCt rfl (WC.exit (QXe (QX.block_hit (QXn (al _ _ (WCg ?_))))))
   refine WLz 2 [(16, I6 (IntKind.i64.wrap ((i : Int) + 1)))] (WLt (show (I6 (IntKind.i64.wrap ((i : Int) + 1)) : Value) = I6 ((i : Int) + 1) from by rw [wrap_in_i64 ((i : Int) + 1) (by omega) (by omega)]) (WLq 1 [(9, I6 ((i : Int) + 1))] (WLd rfl (QXn ?_))))
   have bi := ab.pick [] [0] rfl rfl
   refine fun a_ ha_ => ak _ _ _ ?_ ⟨i + 1, d, A5, n5, c5, O, rfl, rfl, bi, hout, by omega, by omega, ws_named hws af (by simpa using ad)⟩ a_ (ha_.weaken (sub_of ⟨rfl, rfl, rfl, rfl, rfl, rfl, rfl, trivial⟩))
   omega
  ·
   have bS : ¬ (kA aa = kA x) := of_decide_eq_false ad
   refine WCf rfl (WC.skip (QXn (bg _ _ (WCs (fun ch aA => WCs (fun ci aJ => WCg (WLz 3 [(25, .bool !d)] (WLa 25 (!d) rfl (fun ai => ?_) (fun ai => ?_)))))))))
   ·
    have bj : d = false := by first | (simpa only [Bool.not_eq_true', Bool.not_eq_false'] using ai) | simpa using ai
    refine WLq 3 [(28, I6 (i : Int)), (27, .slice A xs.length c), (26, U4 x)] (WLi A xs.length c 29 .i64 (i : Int) b31 o33 i 1 (by kernel_rfl) ag (by omega) (by omega) (o33 + i) (by first | (simp; done) | omega) (WLo 40 (P0 b31 (o33 + i)) (U4 aa) 30 (run_load1 rfl (by simpa [Nat.add_assoc] using ab.fr.cell (ah 0 _ rfl) (by simp))) (WLq 1 [(31, .bool (decide (x < aa)))] (WLt (show (.bool (decide (x < aa)) : Value) = .bool (lt3 (kA x) (kA aa)) from congrArg Value.bool (kA_lt x aa)) (WLq 1 [(32, .bool (lt3 (kA x) (kA aa)))] (WLd rfl (QXn (aJ _ _ ?_))))))))
    refine WCa 32 (lt3 (kA x) (kA aa)) rfl (fun aB => ?_) (fun aB => ?_)
    ·
     refine WCt rfl (WCs (fun cj bk => WCg (WLq 2 [(34, U4 x), (33, .slice A5 n5 c5)] (WL.newM ab (fun b => .slice (some ⟨b, 0, none⟩) 1 1) (.cells #[U4 x] 40) 35 (fun _ => by kernel_rfl) (fun bH ck bT bl aK => ?_)))))
     have bm := own_fr hout bl (by simp)
     obtain ⟨cl, cm, bn, bo, bU, aL, bp, bq⟩ := app_run Tryz.prog aK 0 (v := .slice A5 n5 c5) rfl 28 28 40 1 4 n5 1 1 (some ⟨bH, 0, none⟩) rfl bm [U4 x] rfl (srcOk.blk 1 (aK.get 0 rfl)) rfl (by simp only [maxLen]; omega) (by omega)
     have aM := own_snoc (enc := (Go.Tw.encI .u32)) (ys := O) x bo
     obtain ⟨aN, aO, rfl, bI⟩ := own_form aM
     refine WLS 36 bn (WLq 1 [(7, .slice aN (n5 + 1) aO)] (WLd rfl (QXn (bk _ _ (WCg (WLq 1 [(8, .bool true)] (WLd rfl (QXn (aA _ _ (WCg (WLq 3 [(39, I6 (i : Int)), (38, .slice A xs.length c), (37, .slice aN (n5 + 1) aO)] (WLi A xs.length c 40 .i64 (i : Int) b31 o33 i 1 (by kernel_rfl) ag (by omega) (by omega) (o33 + i) (by first | (simp; done) | omega) (WLo 40 (P0 b31 (o33 + i)) (U4 aa) 41 (run_load1 rfl (by simpa [Nat.add_assoc] using aL.fr.cell (ah 0 _ rfl) (by simp))) ?_)))))))))))))
     refine WL.newM aL (fun b => .slice (some ⟨b, 0, none⟩) 1 1) (.cells #[U4 aa] 40) 42 (fun _ => by kernel_rfl) (fun bJ cn bV br aP => ?_)
     have bs := own_fr aM br (by simp)
     obtain ⟨co, cp, bt, bu, bW, bv, bw, bx⟩ := app_run Tryz.prog aP 0 (v := .slice aN (n5 + 1) aO) rfl 28 28 40 1 4 (n5 + 1) 1 1 (some ⟨bJ, 0, none⟩) rfl bs [U4 aa] rfl (srcOk.blk 1 (aP.get 1 rfl)) rfl (by simp only [maxLen]; omega) (by omega)
     have aQ := own_snoc (enc := (Go.Tw.encI .u32)) (ys := O ++ [x]) aa bu
     obtain ⟨bz, bA, rfl, bK⟩ := own_form aQ
     refine WLS 43 bt (WLq 1 [(7, .slice bz (n5 + 1 + 1) bA)] (WLd rfl (QXb (QXn (al _ _ (WCg ?_))))))
     refine WLz 2 [(16, I6 (IntKind.i64.wrap ((i : Int) + 1)))] (WLt (show (I6 (IntKind.i64.wrap ((i : Int) + 1)) : Value) = I6 ((i : Int) + 1) from by rw [wrap_in_i64 ((i : Int) + 1) (by omega) (by omega)]) (WLq 1 [(9, I6 ((i : Int) + 1))] (WLd rfl (QXn ?_))))
     have bB := bv.pick [] [0] rfl rfl
     refine fun a_ ha_ => ak _ _ _ ?_ ⟨i + 1, true, bz, n5 + 1 + 1, bA, (O ++ [x] ++ [aa]), rfl, rfl, bB, aQ, by omega, by simp; omega, ws_ins hws af (by simpa using ad) (by simpa using bj) (by simpa using aB)⟩ a_ (ha_.weaken (sub_of ⟨rfl, rfl, rfl, rfl, rfl, rfl, rfl, trivial⟩))
     omega
    ·
     refine WCf rfl (WC.skip (QXn (aA _ _ (WCg (WLq 3 [(39, I6 (i : Int)), (38, .slice A xs.length c), (37, .slice A5 n5 c5)] (WLi A xs.length c 40 .i64 (i : Int) b31 o33 i 1 (by kernel_rfl) ag (by omega) (by omega) (o33 + i) (by first | (simp; done) | omega) (WLo 40 (P0 b31 (o33 + i)) (U4 aa) 41 (run_load1 rfl (by simpa [Nat.add_assoc] using ab.fr.cell (ah 0 _ rfl) (by simp))) (WL.newM ab (fun b => .slice (some ⟨b, 0, none⟩) 1 1) (.cells #[U4 aa] 40) 42 (fun _ => by kernel_rfl) (fun bL cq bX bC aR => ?_)))))))))
     have bD := own_fr hout bC (by simp)
     obtain ⟨bY, bZ, aS, aT, bM, aU, a8, a9⟩ := app_run Tryz.prog aR 0 (v := .slice A5 n5 c5) rfl 28 28 40 1 4 n5 1 1 (some ⟨bL, 0, none⟩) rfl bD [U4 aa] rfl (srcOk.blk 1 (aR.get 0 rfl)) rfl (by simp only [maxLen]; omega) (by omega)
     have am := own_snoc (enc := (Go.Tw.encI .u32)) (ys := O) aa aT
     obtain ⟨aC, aD, rfl, bE⟩ := own_form am
     refine WLS 43 aS (WLq 1 [(7, .slice aC (n5 + 1) aD)] (WLd rfl (QXb (QXn (al _ _ (WCg ?_))))))
     refine WLz 2 [(16, I6 (IntKind.i64.wrap ((i : Int) + 1)))] (WLt (show (I6 (IntKind.i64.wrap ((i : Int) + 1)) : Value) = I6 ((i : Int) + 1) from by rw [wrap_in_i64 ((i : Int) + 1) (by omega) (by omega)]) (WLq 1 [(9, I6 ((i : Int) + 1))] (WLd rfl (QXn ?_))))
     have aV := aU.pick [] [0] rfl rfl
     refine fun a_ ha_ => ak _ _ _ ?_ ⟨i + 1, d, aC, n5 + 1, aD, (O ++ [aa]), rfl, rfl, aV, am, by omega, by simp; omega, ws_app hws af (by simpa using ad) (.inr (by simpa using aB))⟩ a_ (ha_.weaken (sub_of ⟨rfl, rfl, rfl, rfl, rfl, rfl, rfl, trivial⟩))
     omega
   ·
    have bj : d = true := by first | (simpa only [Bool.not_eq_true', Bool.not_eq_false'] using ai) | simpa using ai
    refine WLz 7 [(32, .bool false)] (WLd rfl (QXn (aJ _ _ (WCf rfl (WC.skip (QXn (aA _ _ (WCg (WLq 3 [(39, I6 (i : Int)), (38, .slice A xs.length c), (37, .slice A5 n5 c5)] (WLi A xs.length c 40 .i64 (i : Int) b31 o33 i 1 (by kernel_rfl) ag (by omega) (by omega) (o33 + i) (by first | (simp; done) | omega) (WLo 40 (P0 b31 (o33 + i)) (U4 aa) 41 (run_load1 rfl (by simpa [Nat.add_assoc] using ab.fr.cell (ah 0 _ rfl) (by simp))) (WL.newM ab (fun b => .slice (some ⟨b, 0, none⟩) 1 1) (.cells #[U4 aa] 40) 42 (fun _ => by kernel_rfl) (fun aW b0 bN aX an => ?_)))))))))))))
    have aY := own_fr hout aX (by simp)
    obtain ⟨b1, b2, aZ, a0, bO, a1, ba, bb⟩ := app_run Tryz.prog an 0 (v := .slice A5 n5 c5) rfl 28 28 40 1 4 n5 1 1 (some ⟨aW, 0, none⟩) rfl aY [U4 aa] rfl (srcOk.blk 1 (an.get 0 rfl)) rfl (by simp only [maxLen]; omega) (by omega)
    have ao := own_snoc (enc := (Go.Tw.encI .u32)) (ys := O) aa a0
    obtain ⟨aE, aF, rfl, bF⟩ := own_form ao
    refine WLS 43 aZ (WLq 1 [(7, .slice aE (n5 + 1) aF)] (WLd rfl (QXb (QXn (al _ _ (WCg ?_))))))
    refine WLz 2 [(16, I6 (IntKind.i64.wrap ((i : Int) + 1)))] (WLt (show (I6 (IntKind.i64.wrap ((i : Int) + 1)) : Value) = I6 ((i : Int) + 1) from by rw [wrap_in_i64 ((i : Int) + 1) (by omega) (by omega)]) (WLq 1 [(9, I6 ((i : Int) + 1))] (WLd rfl (QXn ?_))))
    have a2 := a1.pick [] [0] rfl rfl
    refine fun a_ ha_ => ak _ _ _ ?_ ⟨i + 1, d, aE, n5 + 1, aF, (O ++ [aa]), rfl, rfl, a2, ao, by omega, by simp; omega, ws_app hws af (by simpa using ad) (.inl (by simpa using bj))⟩ a_ (ha_.weaken (sub_of ⟨rfl, rfl, rfl, rfl, rfl, rfl, rfl, trivial⟩))
    omega
 ·
  have bR : (xs.length : Int) ≤ (i : Int) := by have q_ := of_decide_eq_false az; omega
  refine WCf rfl (WC.exit (QXe (QXe (QX.block_hit (QXn (hK8 _ _ ?_))))))
  refine WCs (fun b3 ae => WCs (fun b4 aj => WCg (WLz 2 [(45, .bool !d)] (WLd rfl (QXn (aj _ _ (WCa 45 (!d) rfl (fun ac => ?_) (fun ac => ?_))))))))
  ·
   have aG : d = false := by first | (simpa only [Bool.not_eq_true', Bool.not_eq_false'] using ac) | simpa using ac
   refine WCt rfl (WCg (WLq 2 [(47, U4 x), (46, .slice A5 n5 c5)] (WL.newM ab (fun b => .slice (some ⟨b, 0, none⟩) 1 1) (.cells #[U4 x] 40) 48 (fun _ => by kernel_rfl) (fun a3 b5 bP a4 ap => ?_))))
   have a5 := own_fr hout a4 (by simp)
   obtain ⟨b6, b7, a6, a7, bQ, aq, bc, bd⟩ := app_run Tryz.prog ap 0 (v := .slice A5 n5 c5) rfl 28 28 40 1 4 n5 1 1 (some ⟨a3, 0, none⟩) rfl a5 [U4 x] rfl (srcOk.blk 1 (ap.get 0 rfl)) rfl (by simp only [maxLen]; omega) (by omega)
   have ar := own_snoc (enc := (Go.Tw.encI .u32)) (ys := O) x a7
   obtain ⟨aH, aI, rfl, bG⟩ := own_form ar
   refine WLS 49 a6 (WLq 1 [(7, .slice aH (n5 + 1) aI)] (WLd rfl (QXn (ae _ _ (WCs (fun b8 au => WCg (WLz 2 [(6, .slice aH (n5 + 1) aI)] (WLd rfl (QXn (au _ _ (WC.ret ?_)))))))))))
   refine (hret _ _ _ rfl ?_).1
   clear hN hret hret' au aj ae ay ax aw hK8 hK6 hK4 hK2
   have he_ := ws_end hws (by omega)
   rw [aG] at he_
   simp only [if_true, if_false, List.append_nil, Bool.false_eq_true] at he_
   have ho_ := ar
   rw [he_] at ho_
   have hc_ := own_count (Go.Tw.encI_len _) (by decide) ho_
   rw [ws_put hs] at ho_ hc_
   exact ⟨_, rfl, aq.fr, by rw [hc_]; exact own_base ho_ (aq.geF 0 rfl)⟩
  ·
   have aG : d = true := by first | (simpa only [Bool.not_eq_true', Bool.not_eq_false'] using ac) | simpa using ac
   refine WCf rfl (WC.skip (QXn (ae _ _ (WCs (fun b9 av => WCg (WLz 2 [(6, .slice A5 n5 c5)] (WLd rfl (QXn (av _ _ (WC.ret ?_))))))))))
   refine (hret _ _ _ rfl ?_).1
   clear hN hret hret' av aj ae ay ax aw hK8 hK6 hK4 hK2
   have he_ := ws_end hws (by omega)
   rw [aG] at he_
   simp only [if_true, if_false, List.append_nil, Bool.false_eq_true] at he_
   have ho_ := hout
   rw [he_] at ho_
   have hc_ := own_count (Go.Tw.encI_len _) (by decide) ho_
   rw [ws_put hs] at ho_ hc_
   exact ⟨_, rfl, ab.fr, by rw [hc_]; exact own_base ho_ (ab.geF 0 rfl)⟩

theorem withA_n (A : Option Addr) (c : Nat) (xs : List Int) (x : Int) (up : Bool) (n : Nat) (w : World) (hr : Rd w 1 (Go.Tw.encI .u32) A xs) (hs : sortK kA xs) (hl : xs.length ≤ 1099511627776) (hn : xs.length = n) : Calls Tryz.prog 56 #[.slice A n c, .int .u32 x, .bool up] w fun e w' => ∃ v, e = .returned v ∧ Fr w w' [] ∧ w'.ownsRow w.heap.size 40 1 v (putK kA xs x up).length (((putK kA xs x up).flatMap (Go.Tw.encI .u32))) := by subst hn; exact withA_ct A c xs x up w hr hs hl
theorem ROutside_ct (ce cn : Int) (AS : Option Addr) (cS : Nat) (xs : List Svc) (AN : Option Addr) (cN : Nat) (ns : List SnatV) (AK : Option Addr) (cK : Nat) (ks : List Int) (AL : Option Addr) (cL : Nat) (ls : List Lease) (dip : Int) (w : World) (hqN : Rd w 2 cellsN AN ns) (hlN : ns.length ≤ 1099511627776) : Calls Tryz.prog 25 #[.agg #[I6 ce, I6 cn, .slice AS xs.length cS, .slice AN ns.length cN, .slice AK ks.length cK, .slice AL ls.length cL], U4 dip] w fun e w' => e = .returned (.tuple #[U4 (outV ns dip), .bool (outB ns dip)]) ∧ Fr w w' [] := by
 refine enterD (n := 28) Tryz.func25 rfl rfl (Nat.le_of_ble_eq_true rfl) ?_
 intro Q0 hN hret hret'
 have hC := Cx.start w
 refine WCs (fun K1 hK2 => WCg (WLb hC (.cells #[I6 ce, I6 cn, .slice AS xs.length cS, .slice AN ns.length cN, .slice AK ks.length cK, .slice AL ls.length cL] 31) 2 (fun g3 w4 hb7 hF5 hC6 => WLq 2 [(5, .bool false), (4, U4 0)] (WLd rfl (QXn (hK2 _ _ (WCs (fun K8 hK9 => WCs (fun av ac => ?_)))))))))
 refine WCg (WLq 1 [(6, I6 0)] (WLd rfl (QXn (ac _ _ (WC.block (WC.loop (fun m_ E_ w_ => ∃ (i : Nat), m_ = ns.length - i ∧ E_ = [(0, .agg #[I6 ce, I6 cn, .slice AS xs.length cS, .slice AN ns.length cN, .slice AK ks.length cK, .slice AL ls.length cL]), (1, U4 dip), (2, P0 g3 0), (6, I6 (i : Int))] ∧ Cx w [] w_ [(g3, .cells #[I6 ce, I6 cn, .slice AS xs.length cS, .slice AN ns.length cN, .slice AK ks.length cK, .slice AL ls.length cL] 31)] [] ∧ (i ≤ ns.length ∧ ∀ y ∈ ns.take i, y.dip ≠ dip)) ⟨_, _, ⟨0, rfl, rfl, hC6, Nat.zero_le _, (fun _ h_ => by simp at h_)⟩, sub_of ⟨rfl, rfl, rfl, rfl, trivial⟩⟩ (fun m15 E_ aw ax ao ap => ?_)))))))
 obtain ⟨i, rfl, rfl, aa, hi, hno⟩ := ap
 refine WCs (fun ay ad => WCs (fun az ae => WCg (WLq 2 [(8, P0 g3 3), (7, I6 (i : Int))] (WLo 27 (P0 g3 3) (.slice AN ns.length cN) 9 (run_ld (aa.get 0 rfl) rfl) (WLz 2 [(11, .bool (decide ((i : Int) < (ns.length : Int))))] (WLd rfl (QXn (ae _ _ (WCa 11 (decide ((i : Int) < (ns.length : Int))) rfl (fun af => ?_) (fun af => ?_))))))))))
 ·
  have ar : (i : Int) < (ns.length : Int) := by have q_ := of_decide_eq_true af; omega
  refine WCt rfl (WC.skip (QXn (ad _ _ (WCs (fun aA ai => WC.block (WCs (fun aB aj => ?_)))))))
  refine WCg (WLq 1 [(14, P0 g3 3)] (WLo 27 (P0 g3 3) (.slice AN ns.length cN) 15 (run_ld (aa.get 0 rfl) rfl) (WLq 1 [(16, I6 (i : Int))] ?_)))
  obtain ⟨ag, ah⟩ := get_some (xs := ns) (i := i) (by omega)
  obtain ⟨b29, o31, ak, al⟩ := hqN.at_ _ _ ah
  refine WLi AN ns.length cN 17 .i64 (i : Int) b29 o31 i 2 (by kernel_rfl) ak (by omega) (by omega) (o31 + i * 2) (by first | (simp; done) | omega) (WLq 1 [(18, P0 b29 (o31 + i * 2))] (WLo 40 (P0 b29 (o31 + i * 2)) (U4 ag.dip) 19 (run_load1 rfl (by simpa [Nat.add_assoc] using aa.fr.cell (al 0 _ rfl) (by simp))) (WLz 2 [(21, .bool (ag.dip == dip))] (WLd rfl (QXn (aj _ _ (WCa 21 (ag.dip == dip) rfl (fun ab => ?_) (fun ab => ?_))))))))
  ·
   have au : ag.dip = dip := by simpa using ab
   refine WCt rfl (WCs (fun aC am => WCg (WLq 1 [(22, P0 g3 3)] (WLo 27 (P0 g3 3) (.slice AN ns.length cN) 23 (run_ld (aa.get 0 rfl) rfl) (WLq 1 [(24, I6 (i : Int))] (WLi AN ns.length cN 25 .i64 (i : Int) b29 o31 i 2 (by kernel_rfl) ak (by omega) (by omega) (o31 + i * 2) (by first | (simp; done) | omega) ?_))))))
   refine WLq 1 [(26, P0 b29 (o31 + i * 2 + 1))] (WLo 40 (P0 b29 (o31 + i * 2 + 1)) (U4 ag.vip) 27 (run_load1 rfl (by simpa [Nat.add_assoc] using aa.fr.cell (al 1 _ rfl) (by simp))) (WLq 2 [(5, .bool true), (4, U4 ag.vip)] (WLd rfl (QXn (am _ _ (WC.ret (QXk (QXr ?_))))))))
   refine QXr (QXk (QXr ?_))
   refine (hret _ _ _ rfl ?_).1
   clear hN hret hret' am aj ai ae ad ac hK9 hK2
   have hof_ := outF_hit ah (by simpa using ab) hno
   exact ⟨by unfold outV outB; rw [hof_]; rfl, aa.fr⟩
  ·
   have au : ¬ (ag.dip = dip) := by simpa using ab
   refine WCf rfl (WC.skip (QXb (QXn (ai _ _ (WCg (WLz 2 [(13, I6 (IntKind.i64.wrap ((i : Int) + 1)))] (WLt (show (I6 (IntKind.i64.wrap ((i : Int) + 1)) : Value) = I6 ((i : Int) + 1) from by rw [wrap_in_i64 ((i : Int) + 1) (by omega) (by omega)]) ?_)))))))
   refine WLq 1 [(6, I6 ((i : Int) + 1))] (WLd rfl (QXn ?_))
   have aq := aa.pick [0] [] rfl rfl
   refine fun a_ ha_ => ao _ _ _ ?_ ⟨i + 1, rfl, rfl, aq, by omega, take_no ah (by simpa using ab) hno⟩ a_ (ha_.weaken (sub_of ⟨rfl, rfl, rfl, rfl, trivial⟩))
   omega
 ·
  have ar : (ns.length : Int) ≤ (i : Int) := by have q_ := of_decide_eq_false af; omega
  refine WCf rfl (WC.exit (QXe (QXe (QX.block_hit (QXn (hK9 _ _ ?_))))))
  refine WCs (fun aD an => WCg (WLq 2 [(5, .bool false), (4, U4 0)] (WLd rfl (QXn (an _ _ (WC.ret ?_))))))
  refine (hret _ _ _ rfl ?_).1
  clear hN hret hret' an ae ad ac hK9 hK2
  rw [List.take_of_length_le (by omega)] at hno
  have hof_ := outF_none hno
  exact ⟨by unfold outV outB; rw [hof_]; rfl, aa.fr⟩

set_option maxHeartbeats 1000000 in
theorem RService_ct (ce cn : Int) (AS : Option Addr) (cS : Nat) (xs : List Svc) (AN : Option Addr) (cN : Nat) (ns : List SnatV) (AK : Option Addr) (cK : Nat) (ks : List Int) (AL : Option Addr) (cL : Nat) (ls : List Lease) (vip proto port : Int) (w : World) (hqS : Rd w 4 cellsS AS xs) (hat : ∀ s ∈ xs, svcAt w s) (hqN : Rd w 2 cellsN AN ns) (hqK : Rd w 1 (Go.Tw.encI .u32) AK ks) (hqL : Rd w 4 encL AL ls) (hlS : xs.length ≤ 1099511627776) (hlN : ns.length ≤ 1099511627776) (hlK : ks.length ≤ 1099511627776) (hlL : ls.length ≤ 1099511627776) : Calls Tryz.prog 18 #[.agg #[I6 ce, I6 cn, .slice AS xs.length cS, .slice AN ns.length cN, .slice AK ks.length cK, .slice AL ls.length cL], U4 vip, I6 proto, I6 port] w fun e w' => ∃ (A2 : Option Addr) (c2 : Nat), e = .returned (.tuple #[.agg #[U4 ((getS (xs.map (·.v)) (vip, proto, port)).vip), I6 ((getS (xs.map (·.v)) (vip, proto, port)).proto), I6 ((getS (xs.map (·.v)) (vip, proto, port)).port), .slice A2 ((getS (xs.map (·.v)) (vip, proto, port)).ends.length) c2], .bool (hasS (xs.map (·.v)) (vip, proto, port))]) ∧ Fr w w' [] ∧ fromS xs A2 (getS (xs.map (·.v)) (vip, proto, port)).ends := by
 refine enterD (n := 34) Tryz.func18 rfl rfl (Nat.le_of_ble_eq_true rfl) ?_
 intro Q0 hN hret hret'
 have hC := Cx.start w
 refine WCs (fun K1 hK2 => WCg (WLb hC (.cells #[I6 ce, I6 cn, .slice AS xs.length cS, .slice AN ns.length cN, .slice AK ks.length cK, .slice AL ls.length cL] 31) 4 (fun g3 w4 hb7 hF5 hC6 => WLb hC6 (.cells #[U4 0, I6 0, I6 0, .slice none 0 0] 43) 8 (fun g8 w9 aB aC aw => WLq 1 [(9, .bool false)] (WLd rfl (QXn (hK2 _ _ (WCs (fun aI ag => ?_)))))))))
 refine WCs (fun aJ ah => WCg (WLq 1 [(10, I6 0)] (WLd rfl (QXn (ah _ _ (WC.block (WC.loop (fun m_ E_ w_ => ∃ (i : Nat), m_ = xs.length - i ∧ E_ = [(1, U4 vip), (2, I6 proto), (3, I6 port), (4, P0 g3 0), (8, P0 g8 0), (10, I6 (i : Int))] ∧ Cx w [] w_ [(g3, .cells #[I6 ce, I6 cn, .slice AS xs.length cS, .slice AN ns.length cN, .slice AK ks.length cK, .slice AL ls.length cL] 31), (g8, .cells #[U4 0, I6 0, I6 0, .slice none 0 0] 43)] [] ∧ (i ≤ xs.length ∧ ∀ y ∈ xs.take i, kV y.v ≠ (vip, proto, port))) ⟨_, _, ⟨0, rfl, rfl, aw, Nat.zero_le _, (fun _ h_ => by simp at h_)⟩, sub_of ⟨rfl, rfl, rfl, rfl, rfl, rfl, trivial⟩⟩ (fun m20 E_ aD aK ax ay => ?_))))))))
 obtain ⟨i, rfl, rfl, ab, hi, hno⟩ := ay
 refine WCs (fun aL ai => WCs (fun aM aj => WCg (WLq 2 [(12, P0 g3 2), (11, I6 (i : Int))] (WLo 26 (P0 g3 2) (.slice AS xs.length cS) 13 (run_ld (ab.get 0 rfl) rfl) (WLz 2 [(15, .bool (decide ((i : Int) < (xs.length : Int))))] (WLd rfl (QXn (aj _ _ (WCa 15 (decide ((i : Int) < (xs.length : Int))) rfl (fun ak => ?_) (fun ak => ?_))))))))))
 ·
  have aE : (i : Int) < (xs.length : Int) := by have q_ := of_decide_eq_true ak; omega
  refine WCt rfl (WC.skip (QXn (ai _ _ (WCs (fun aN al => WC.block (WCs (fun aO am => ?_)))))))
  refine WCg (WLq 1 [(18, P0 g3 2)] (WLo 26 (P0 g3 2) (.slice AS xs.length cS) 19 (run_ld (ab.get 0 rfl) rfl) (WLq 1 [(20, I6 (i : Int))] ?_)))
  obtain ⟨aa, ac⟩ := get_some (xs := xs) (i := i) (by omega)
  obtain ⟨b34, o36, an, ao⟩ := hqS.at_ _ _ ac
  have ae := hat _ (List.mem_of_getElem? ac)
  have av := ae.lim
  refine WLi AS xs.length cS 21 .i64 (i : Int) b34 o36 i 4 (by kernel_rfl) an (by omega) (by omega) (o36 + i * 4) (by first | (simp; done) | omega) (WLo 43 (P0 b34 (o36 + i * 4)) (.agg #[U4 aa.v.vip, I6 aa.v.proto, I6 aa.v.port, .slice aa.a aa.v.ends.length aa.c]) 22 (run_rdN (l := [U4 aa.v.vip, I6 aa.v.proto, I6 aa.v.port, .slice aa.a aa.v.ends.length aa.c]) rfl rfl (fun j u hu => by have hq_ := ab.fr.cell (ao j u hu) (by simp); simpa [Nat.add_assoc] using hq_)) (WLz 4 [(26, .agg #[U4 vip, I6 proto, I6 port, .slice none 0 0])] (WLk (named_ct aa (⟨⟨vip, proto, port, []⟩, none, 0⟩ : Svc) aD) ?_)))
  rintro _ aP ⟨rfl, az⟩
  refine ⟨_, rfl, ?_⟩
  have af := ab.call az
  refine WLd rfl (QXn (am _ _ (WCa 27 (decide (kS aa = kS (⟨⟨vip, proto, port, []⟩, none, 0⟩ : Svc))) rfl (fun ad => ?_) (fun ad => ?_))))
  ·
   have aF : kS aa = kS (⟨⟨vip, proto, port, []⟩, none, 0⟩ : Svc) := of_decide_eq_true ad
   refine WCt rfl (WCs (fun aQ ap => WCg (WLq 1 [(28, P0 g3 2)] (WLo 26 (P0 g3 2) (.slice AS xs.length cS) 29 (run_ld (af.get 0 rfl) rfl) (WLq 1 [(30, I6 (i : Int))] (WLi AS xs.length cS 31 .i64 (i : Int) b34 o36 i 4 (by kernel_rfl) an (by omega) (by omega) (o36 + i * 4) (by first | (simp; done) | omega) ?_))))))
   refine WLo 43 (P0 b34 (o36 + i * 4)) (.agg #[U4 aa.v.vip, I6 aa.v.proto, I6 aa.v.port, .slice aa.a aa.v.ends.length aa.c]) 32 (run_rdN (l := [U4 aa.v.vip, I6 aa.v.proto, I6 aa.v.port, .slice aa.a aa.v.ends.length aa.c]) rfl rfl (fun j u hu => by have hq_ := af.fr.cell (ao j u hu) (by simp); simpa [Nat.add_assoc] using hq_)) (WLv (c' := #[U4 aa.v.vip, I6 aa.v.proto, I6 aa.v.port, .slice aa.a aa.v.ends.length aa.c]) af 1 43 g8 0 (.agg #[U4 aa.v.vip, I6 aa.v.proto, I6 aa.v.port, .slice aa.a aa.v.ends.length aa.c]) (fun aR aG aq => WLq 1 [(9, .bool true)] (WLd rfl (QXn (ap _ _ (WC.ret (QXk (QXr ?_))))))))
   refine QXr (QXk (QXr ?_))
   refine (hret' _ _ (.tuple #[.agg #[U4 aa.v.vip, I6 aa.v.proto, I6 aa.v.port, .slice aa.a aa.v.ends.length aa.c], .bool true]) (fun a ha => ?_) ?_).1
   ·
    exact res_run ha ((ResR.cell rfl (run_ld (aq.get 1 rfl) rfl) (ResR.tmp rfl ResR.nil))) rfl
   clear hN hret hret' ap am al aj ai ah ag hK2
   have hf_ := findS_hit (k := (vip, proto, port)) ac (of_decide_eq_true ad) hno
   have hg_ : (getS (xs.map (·.v)) (vip, proto, port)) = aa.v := by unfold getS; rw [hf_]; rfl
   have hb_ : hasS (xs.map (·.v)) (vip, proto, port) = true := by unfold hasS; rw [hf_]; rfl
   rw [hg_, hb_]
   exact ⟨_, _, rfl, aq.fr, .inr ⟨_, List.mem_of_getElem? ac, rfl, rfl⟩⟩
  ·
   have aF : ¬ (kS aa = kS (⟨⟨vip, proto, port, []⟩, none, 0⟩ : Svc)) := of_decide_eq_false ad
   refine WCf rfl (WC.skip (QXb (QXn (al _ _ (WCg (WLz 2 [(17, I6 (IntKind.i64.wrap ((i : Int) + 1)))] (WLt (show (I6 (IntKind.i64.wrap ((i : Int) + 1)) : Value) = I6 ((i : Int) + 1) from by rw [wrap_in_i64 ((i : Int) + 1) (by omega) (by omega)]) ?_)))))))
   refine WLq 1 [(10, I6 ((i : Int) + 1))] (WLd rfl (QXn ?_))
   have aA := af.pick [0, 1] [] rfl rfl
   refine fun a_ ha_ => ax _ _ _ ?_ ⟨i + 1, rfl, rfl, aA, by omega, takeS_no ac (fun q_ => absurd q_ (of_decide_eq_false ad)) hno⟩ a_ (ha_.weaken (sub_of ⟨rfl, rfl, rfl, rfl, rfl, rfl, trivial⟩))
   omega
 ·
  have aE : (xs.length : Int) ≤ (i : Int) := by have q_ := of_decide_eq_false ak; omega
  refine WCf rfl (WC.exit (QXe (QXe (QX.block_hit (QXn (ag _ _ ?_))))))
  refine WCs (fun aS ar => WCg (WLq 1 [(33, .agg #[U4 0, I6 0, I6 0, .slice none 0 0])] (WLv (c' := #[U4 0, I6 0, I6 0, .slice none 0 0]) ab 1 43 g8 0 (.agg #[U4 0, I6 0, I6 0, .slice none 0 0]) (fun aT aH au => WLq 1 [(9, .bool false)] (WLd rfl (QXn (ar _ _ (WC.ret ?_))))))))
  refine (hret' _ _ (.tuple #[.agg #[U4 0, I6 0, I6 0, .slice none 0 0], .bool false]) (fun a ha => ?_) ?_).1
  ·
   exact res_run ha ((ResR.cell rfl (run_ld (au.get 1 rfl) rfl) (ResR.tmp rfl ResR.nil))) rfl
  clear hN hret hret' ar aj ai ah ag hK2
  rw [List.take_of_length_le (by omega)] at hno
  have hf_ := findS_none hno
  have hg_ : (getS (xs.map (·.v)) (vip, proto, port)) = zeroS := by unfold getS; rw [hf_]; rfl
  have hb_ : hasS (xs.map (·.v)) (vip, proto, port) = false := by unfold hasS; rw [hf_]; rfl
  rw [hg_, hb_]
  exact ⟨none, 0, rfl, au.fr, .inl ⟨rfl, rfl⟩⟩

theorem Rsick_ct (ce cn : Int) (AS : Option Addr) (cS : Nat) (xs : List Svc) (AN : Option Addr) (cN : Nat) (ns : List SnatV) (AK : Option Addr) (cK : Nat) (ks : List Int) (AL : Option Addr) (cL : Nat) (ls : List Lease) (d : Int) (w : World) (hqS : Rd w 4 cellsS AS xs) (hat : ∀ s ∈ xs, svcAt w s) (hqN : Rd w 2 cellsN AN ns) (hqK : Rd w 1 (Go.Tw.encI .u32) AK ks) (hqL : Rd w 4 encL AL ls) (hlS : xs.length ≤ 1099511627776) (hlN : ns.length ≤ 1099511627776) (hlK : ks.length ≤ 1099511627776) (hlL : ls.length ≤ 1099511627776) : Calls Tryz.prog 51 #[.agg #[I6 ce, I6 cn, .slice AS xs.length cS, .slice AN ns.length cN, .slice AK ks.length cK, .slice AL ls.length cL], U4 d] w fun e w' => e = .returned (.bool (sickB ks d)) ∧ Fr w w' [] := by
 refine enterD (n := 20) Tryz.func51 rfl rfl (Nat.le_of_ble_eq_true rfl) ?_
 intro Q0 hN hret hret'
 have hC := Cx.start w
 refine WCs (fun K1 hK2 => WCg (WLb hC (.cells #[I6 ce, I6 cn, .slice AS xs.length cS, .slice AN ns.length cN, .slice AK ks.length cK, .slice AL ls.length cL] 31) 2 (fun g3 w4 hb7 hF5 hC6 => WLq 1 [(4, .bool false)] (WLd rfl (QXn (hK2 _ _ (WCs (fun K8 hK9 => WCs (fun av ac => ?_)))))))))
 refine WCg (WLq 1 [(5, I6 0)] (WLd rfl (QXn (ac _ _ (WC.block (WC.loop (fun m_ E_ w_ => ∃ (i : Nat), m_ = ks.length - i ∧ E_ = [(1, U4 d), (2, P0 g3 0), (5, I6 (i : Int))] ∧ Cx w [] w_ [(g3, .cells #[I6 ce, I6 cn, .slice AS xs.length cS, .slice AN ns.length cN, .slice AK ks.length cK, .slice AL ls.length cL] 31)] [] ∧ (i ≤ ks.length ∧ sickB (ks.take i) d = false)) ⟨_, _, ⟨0, rfl, rfl, hC6, Nat.zero_le _, rfl⟩, sub_of ⟨rfl, rfl, rfl, trivial⟩⟩ (fun m15 E_ aw ax am an => ?_)))))))
 obtain ⟨i, rfl, rfl, aa, hi, hno⟩ := an
 refine WCs (fun ay ad => WCs (fun az ae => WCg (WLq 2 [(7, P0 g3 4), (6, I6 (i : Int))] (WLo 28 (P0 g3 4) (.slice AK ks.length cK) 8 (run_ld (aa.get 0 rfl) rfl) (WLz 2 [(10, .bool (decide ((i : Int) < (ks.length : Int))))] (WLd rfl (QXn (ae _ _ (WCa 10 (decide ((i : Int) < (ks.length : Int))) rfl (fun af => ?_) (fun af => ?_))))))))))
 ·
  have ar : (i : Int) < (ks.length : Int) := by have q_ := of_decide_eq_true af; omega
  refine WCt rfl (WC.skip (QXn (ad _ _ (WCs (fun aA ah => WC.block (WCs (fun aB ai => ?_)))))))
  refine WCg (WLq 1 [(13, P0 g3 4)] (WLo 28 (P0 g3 4) (.slice AK ks.length cK) 14 (run_ld (aa.get 0 rfl) rfl) (WLq 1 [(15, I6 (i : Int))] ?_)))
  obtain ⟨aj, ag⟩ := get_some (xs := ks) (i := i) (by omega)
  obtain ⟨b29, o31, ao, ap⟩ := hqK.at_ _ _ ag
  refine WLi AK ks.length cK 16 .i64 (i : Int) b29 o31 i 1 (by kernel_rfl) ao (by omega) (by omega) (o31 + i) (by first | (simp; done) | omega) (WLo 40 (P0 b29 (o31 + i)) (U4 aj) 17 (run_load1 rfl (by simpa [Nat.add_assoc] using aa.fr.cell (ap 0 _ rfl) (by simp))) (WLz 2 [(19, .bool (aj == d))] (WLd rfl (QXn (ai _ _ (WCa 19 (aj == d) rfl (fun ab => ?_) (fun ab => ?_)))))))
  ·
   have au : aj = d := by simpa using ab
   refine WCt rfl (WCs (fun aC ak => WCg (WLq 1 [(4, .bool true)] (WLd rfl (QXn (ak _ _ (WC.ret (QXk (QXr ?_)))))))))
   refine QXr (QXk (QXr ?_))
   refine (hret _ _ _ rfl ?_).1
   clear hN hret hret' ak ai ah ae ad ac hK9 hK2
   have hy_ : sickB ks d = true := sick_yes ag (by have q_ := ab; exact (eq_of_beq q_).symm)
   rw [hy_]
   exact ⟨rfl, aa.fr⟩
  ·
   have au : ¬ (aj = d) := by simpa using ab
   refine WCf rfl (WC.skip (QXb (QXn (ah _ _ (WCg (WLz 2 [(12, I6 (IntKind.i64.wrap ((i : Int) + 1)))] (WLt (show (I6 (IntKind.i64.wrap ((i : Int) + 1)) : Value) = I6 ((i : Int) + 1) from by rw [wrap_in_i64 ((i : Int) + 1) (by omega) (by omega)]) ?_)))))))
   refine WLq 1 [(5, I6 ((i : Int) + 1))] (WLd rfl (QXn ?_))
   have aq := aa.pick [0] [] rfl rfl
   refine fun a_ ha_ => am _ _ _ ?_ ⟨i + 1, rfl, rfl, aq, by omega, sick_no ag (fun e_ => by have q_ := ab; rw [e_] at q_; simp at q_) hno⟩ a_ (ha_.weaken (sub_of ⟨rfl, rfl, rfl, trivial⟩))
   omega
 ·
  have ar : (ks.length : Int) ≤ (i : Int) := by have q_ := of_decide_eq_false af; omega
  refine WCf rfl (WC.exit (QXe (QXe (QX.block_hit (QXn (hK9 _ _ ?_))))))
  refine WCs (fun aD al => WCg (WLq 1 [(4, .bool false)] (WLd rfl (QXn (al _ _ (WC.ret ?_))))))
  refine (hret _ _ _ rfl ?_).1
  clear hN hret hret' al ae ad ac hK9 hK2
  rw [List.take_of_length_le (by omega)] at hno
  rw [hno]
  exact ⟨rfl, aa.fr⟩

set_option maxHeartbeats 1000000 in
theorem RHealthy_ct (ce cn : Int) (AS : Option Addr) (cS : Nat) (xs : List Svc) (AN : Option Addr) (cN : Nat) (ns : List SnatV) (AK : Option Addr) (cK : Nat) (ks : List Int) (AL : Option Addr) (cL : Nat) (ls : List Lease) (sv sp sq : Int) (AE : Option Addr) (cE : Nat) (es : List EndV) (w : World) (hqS : Rd w 4 cellsS AS xs) (hat : ∀ s ∈ xs, svcAt w s) (hqN : Rd w 2 cellsN AN ns) (hqK : Rd w 1 (Go.Tw.encI .u32) AK ks) (hqL : Rd w 4 encL AL ls) (hlS : xs.length ≤ 1099511627776) (hlN : ns.length ≤ 1099511627776) (hlK : ks.length ≤ 1099511627776) (hlL : ls.length ≤ 1099511627776) (hre : Rd w 3 cellsE AE es) (hle : es.length ≤ 1099511627776) : Calls Tryz.prog 21 #[.agg #[I6 ce, I6 cn, .slice AS xs.length cS, .slice AN ns.length cN, .slice AK ks.length cK, .slice AL ls.length cL], .agg #[U4 sv, I6 sp, I6 sq, .slice AE es.length cE]] w fun e w' => ∃ v, e = .returned v ∧ Fr w w' [] ∧ w'.ownsRow w.heap.size 47 3 v (wellL ks es).length ((wellL ks es).flatMap cellsE) := by
 refine enterD (n := 32) Tryz.func21 rfl rfl (Nat.le_of_ble_eq_true rfl) ?_
 intro Q0 hN hret hret'
 have hC := Cx.start w
 refine WCs (fun K1 hK2 => WCg (WLb hC (.cells #[I6 ce, I6 cn, .slice AS xs.length cS, .slice AN ns.length cN, .slice AK ks.length cK, .slice AL ls.length cL] 31) 2 (fun g3 w4 hb7 hF5 hC6 => WLb hC6 (.cells #[U4 sv, I6 sp, I6 sq, .slice AE es.length cE] 43) 3 (fun g8 w9 aT aU az => WLq 1 [(4, .slice none 0 0)] (WLd rfl (QXn (hK2 _ _ (WCs (fun aZ aj => ?_)))))))))
 refine WCg (WLq 1 [(5, .slice none 0 0)] (WLd rfl (QXn (aj _ _ (WCs (fun a0 ak => WCs (fun a1 al => WCg (WLq 1 [(6, I6 0)] (WLd rfl (QXn (al _ _ (WC.block ?_))))))))))))
 have aA := az.addNil
 refine WC.loop (fun m_ E_ w_ => ∃ (k : Nat) (A5 : Option Addr) (n5 c5 : Nat), m_ = es.length - k ∧ E_ = [(2, P0 g3 0), (3, P0 g8 0), (4, .slice none 0 0), (5, .slice A5 n5 c5), (6, I6 (k : Int))] ∧ Cx w [] w_ [(g3, .cells #[I6 ce, I6 cn, .slice AS xs.length cS, .slice AN ns.length cN, .slice AK ks.length cK, .slice AL ls.length cL] 31), (g8, .cells #[U4 sv, I6 sp, I6 sq, .slice AE es.length cE] 43)] [blk (.slice A5 n5 c5)] ∧ World.ownsRow w_ 0 47 3 (.slice A5 n5 c5) n5 ((wellL ks (es.take k)).flatMap cellsE) ∧ (k ≤ es.length)) ⟨_, _, ⟨0, none, 0, 0, rfl, rfl, aA, own_nil _ _ _ _, Nat.zero_le _⟩, sub_of ⟨rfl, rfl, rfl, rfl, rfl, trivial⟩⟩ (fun m23 E_ a2 a3 am aB => ?_)
 obtain ⟨k, A5, n5, c5, rfl, rfl, ae, hout, hk⟩ := aB
 have hon_ := own_count cellsE_len (by decide) hout
 have hob_ : (wellL ks (es.take k)).length ≤ es.length := Nat.le_trans (List.length_filter_le _ _) (by rw [List.length_take]; exact Nat.min_le_right _ _)
 refine WCs (fun a4 an => WCs (fun a5 ao => WCg (WLq 2 [(8, P0 g8 3), (7, I6 (k : Int))] (WLo 41 (P0 g8 3) (.slice AE es.length cE) 9 (run_ld (ae.get 1 rfl) rfl) (WLz 2 [(11, .bool (decide ((k : Int) < (es.length : Int))))] (WLd rfl (QXn (ao _ _ (WCa 11 (decide ((k : Int) < (es.length : Int))) rfl (fun ag => ?_) (fun ag => ?_))))))))))
 ·
  have aV : (k : Int) < (es.length : Int) := by have q_ := of_decide_eq_true ag; omega
  refine WCt rfl (WC.skip (QXn (an _ _ (WCs (fun a6 ap => WC.block (WCs (fun a7 aC => ?_)))))))
  refine WC.drawC ae [] (by kernel_rfl) (fun aW aD aa ac => ?_)
  have aE := own_fr hout aD (by simp)
  refine WDx 2 [(1, 15, P0 g8 3), (3, 17, I6 (k : Int))] ac (WDm 0 31 (P0 g3 0) (.agg #[I6 ce, I6 cn, .slice AS xs.length cS, .slice AN ns.length cN, .slice AK ks.length cK, .slice AL ls.length cL]) 14 (fun _ hS_ => run_ld (Fr.has hS_ (aa.get 0 rfl) (by simp)) rfl) ac (WDm 2 41 (P0 g8 3) (.slice AE es.length cE) 16 (fun _ hS_ => run_ld (Fr.has hS_ (aa.get 1 rfl) (by simp)) rfl) ac ?_))
  obtain ⟨ab, ah⟩ := get_some (xs := es) (i := k) (by omega)
  obtain ⟨b42, o44, aq, ar⟩ := hre.at_ _ _ ah
  refine WDi (NPt (NPb (NPt (NPt (NPb (NPt hN)))))) 4 AE es.length cE 18 .i64 (k : Int) b42 o44 k 3 (by kernel_rfl) (by kernel_rfl) aq (by omega) (by omega) (o44 + k * 3) (by first | (simp; done) | omega) ac (WDq 5 19 (P0 b42 (o44 + k * 3)) ac (WDm 6 40 (P0 b42 (o44 + k * 3)) (U4 ab.dip) 20 (fun _ hS_ => run_load1 rfl (by simpa [Nat.add_assoc] using Fr.cell hS_ (aa.fr.cell (ar 0 _ rfl) (by simp)) (by simp))) ac (WDc 7 (Rsick_ct ce cn AS cS xs AN cN ns AK cK ks AL cL ls ab.dip aW (Rd.fr hqS aa.fr) (fun s_ h_ => (hat s_ h_).fr aa.fr (fun _ _ => by simp)) (Rd.fr hqN aa.fr) (Rd.fr hqK aa.fr) (Rd.fr hqL aa.fr) hlS hlN hlK hlL) ?_)))
  rintro _ a8 ⟨rfl, ai⟩
  have au := ac.trans ai (by simp)
  refine ⟨_, rfl, au, ?_⟩
  have af := aa.call ai
  have av := own_fr aE ai (by simp)
  refine WDq 8 22 (.bool (!(sickB ks ab.dip))) au (WDd (QXn (aC _ _ (WCa 22 (!(sickB ks ab.dip)) rfl (fun ad => ?_) (fun ad => ?_)))))
  ·
   have aF : (sickB ks ab.dip) = false := by first | (simpa only [Bool.not_eq_true', Bool.not_eq_false'] using ad) | simpa using ad
   refine WCt rfl (WCg (WLq 2 [(24, P0 g8 3), (23, .slice A5 n5 c5)] (WLo 41 (P0 g8 3) (.slice AE es.length cE) 25 (run_ld (af.get 1 rfl) rfl) (WLq 1 [(26, I6 (k : Int))] (WLi AE es.length cE 27 .i64 (k : Int) b42 o44 k 3 (by kernel_rfl) aq (by omega) (by omega) (o44 + k * 3) (by first | (simp; done) | omega) (WLo 47 (P0 b42 (o44 + k * 3)) (.agg #[U4 ab.dip, I6 ab.port, I6 ab.weight]) 28 (run_rdN (l := [U4 ab.dip, I6 ab.port, I6 ab.weight]) rfl rfl (fun j u hu => by have hq_ := af.fr.cell (ar j u hu) (by simp); simpa [Nat.add_assoc] using hq_)) ?_))))))
   refine WL.newM af (fun b => .slice (some ⟨b, 0, none⟩) 1 1) (.cells #[U4 ab.dip, I6 ab.port, I6 ab.weight] 47) 29 (fun _ => by kernel_rfl) (fun aR a9 aX aG aw => ?_)
   have aH := own_fr av aG (by simp)
   obtain ⟨ba, bb, aI, aJ, aY, aK, aL, aM⟩ := app_run Tryz.prog aw 0 (v := .slice A5 n5 c5) rfl 41 41 47 3 24 n5 1 1 (some ⟨aR, 0, none⟩) rfl aH [U4 ab.dip, I6 ab.port, I6 ab.weight] rfl (srcOk.blk 1 (aw.get 2 rfl)) rfl (by simp only [maxLen]; omega) (by omega)
   have ax := own_snoc (enc := cellsE) (ys := (wellL ks (es.take k))) ab aJ
   obtain ⟨aN, aO, rfl, aS⟩ := own_form ax
   refine WLS 30 aI (WLq 1 [(5, .slice aN (n5 + 1) aO)] (WLd rfl (QXb (QXn (ap _ _ (WCg ?_))))))
   refine WLz 2 [(13, I6 (IntKind.i64.wrap ((k : Int) + 1)))] (WLt (show (I6 (IntKind.i64.wrap ((k : Int) + 1)) : Value) = I6 ((k : Int) + 1) from by rw [wrap_in_i64 ((k : Int) + 1) (by omega) (by omega)]) (WLq 1 [(6, I6 ((k : Int) + 1))] (WLd rfl (QXn ?_))))
   have aP := aK.pick [0, 1] [0] rfl rfl
   refine fun a_ ha_ => am _ _ _ ?_ ⟨k + 1, aN, n5 + 1, aO, rfl, rfl, aP, by unfold wellL; rw [filt_snoc _ ah, if_pos (by simpa using aF)]; exact ax, by omega⟩ a_ (ha_.weaken (sub_of ⟨rfl, rfl, rfl, rfl, rfl, trivial⟩))
   omega
  ·
   have aF : (sickB ks ab.dip) = true := by first | (simpa only [Bool.not_eq_true', Bool.not_eq_false'] using ad) | simpa using ad
   refine WCf rfl (WC.skip (QXb (QXn (ap _ _ (WCg (WLz 2 [(13, I6 (IntKind.i64.wrap ((k : Int) + 1)))] (WLt (show (I6 (IntKind.i64.wrap ((k : Int) + 1)) : Value) = I6 ((k : Int) + 1) from by rw [wrap_in_i64 ((k : Int) + 1) (by omega) (by omega)]) ?_)))))))
   refine WLq 1 [(6, I6 ((k : Int) + 1))] (WLd rfl (QXn ?_))
   have aQ := af.pick [0, 1] [0] rfl rfl
   refine fun a_ ha_ => am _ _ _ ?_ ⟨k + 1, A5, n5, c5, rfl, rfl, aQ, by unfold wellL; rw [filt_snoc _ ah, if_neg (by simpa using aF), List.append_nil]; exact av, by omega⟩ a_ (ha_.weaken (sub_of ⟨rfl, rfl, rfl, rfl, rfl, trivial⟩))
   omega
 ·
  have aV : (es.length : Int) ≤ (k : Int) := by have q_ := of_decide_eq_false ag; omega
  refine WCf rfl (WC.exit (QXe (QXe (QX.block_hit (QXn (ak _ _ ?_))))))
  refine WCs (fun bc ay => WCg (WLz 2 [(4, .slice A5 n5 c5)] (WLd rfl (QXn (ay _ _ (WC.ret ?_))))))
  refine (hret _ _ _ rfl ?_).1
  clear hN hret hret' ay ao an al ak aj hK2
  have hke_ : k = es.length := by omega
  have ho_ := hout
  rw [hke_, List.take_length] at ho_ hon_
  subst hon_
  exact ⟨_, rfl, ae.fr, own_base ho_ (newF_of ae 0 rfl (fun _ h_ => nomatch h_) (fun _ h_ => nomatch h_))⟩

theorem RHealthy_n (ce cn : Int) (AS : Option Addr) (cS : Nat) (xs : List Svc) (AN : Option Addr) (cN : Nat) (ns : List SnatV) (AK : Option Addr) (cK : Nat) (ks : List Int) (AL : Option Addr) (cL : Nat) (ls : List Lease) (sv sp sq : Int) (AE : Option Addr) (cE : Nat) (es : List EndV) (n : Nat) (w : World) (hqS : Rd w 4 cellsS AS xs) (hat : ∀ s ∈ xs, svcAt w s) (hqN : Rd w 2 cellsN AN ns) (hqK : Rd w 1 (Go.Tw.encI .u32) AK ks) (hqL : Rd w 4 encL AL ls) (hlS : xs.length ≤ 1099511627776) (hlN : ns.length ≤ 1099511627776) (hlK : ks.length ≤ 1099511627776) (hlL : ls.length ≤ 1099511627776) (hre : Rd w 3 cellsE AE es) (hle : es.length ≤ 1099511627776) (hn : es.length = n) : Calls Tryz.prog 21 #[.agg #[.int .i64 ce, .int .i64 cn, .slice AS xs.length cS, .slice AN ns.length cN, .slice AK ks.length cK, .slice AL ls.length cL], .agg #[.int .u32 sv, .int .i64 sp, .int .i64 sq, .slice AE n cE]] w fun e w' => ∃ v, e = .returned v ∧ Fr w w' [] ∧ w'.ownsRow w.heap.size 47 3 v (wellL ks es).length ((wellL ks es).flatMap cellsE) := by subst hn; exact RHealthy_ct ce cn AS cS xs AN cN ns AK cK ks AL cL ls sv sp sq AE cE es w hqS hat hqN hqK hqL hlS hlN hlK hlL hre hle
set_option maxHeartbeats 1000000 in
theorem RAllowed_ct (ce cn : Int) (AS : Option Addr) (cS : Nat) (xs : List Svc) (AN : Option Addr) (cN : Nat) (ns : List SnatV) (AK : Option Addr) (cK : Nat) (ks : List Int) (AL : Option Addr) (cL : Nat) (ls : List Lease) (fp : Int) (fs : Int) (fsp fd fdp : Int) (dip : Int) (w : World) (hqS : Rd w 4 cellsS AS xs) (hat : ∀ s ∈ xs, svcAt w s) (hqN : Rd w 2 cellsN AN ns) (hqK : Rd w 1 (Go.Tw.encI .u32) AK ks) (hqL : Rd w 4 encL AL ls) (hlS : xs.length ≤ 1099511627776) (hlN : ns.length ≤ 1099511627776) (hlK : ks.length ≤ 1099511627776) (hlL : ls.length ≤ 1099511627776) : Calls Tryz.prog 23 #[.agg #[I6 ce, I6 cn, .slice AS xs.length cS, .slice AN ns.length cN, .slice AK ks.length cK, .slice AL ls.length cL], .agg #[I6 fp, U4 fs, I6 fsp, U4 fd, I6 fdp], U4 dip] w fun e w' => e = .returned (.tuple #[.agg #[U4 ((alwE (wellL ks (getS (xs.map Svc.v) (fd, fp, fdp)).ends) dip).dip), I6 ((alwE (wellL ks (getS (xs.map Svc.v) (fd, fp, fdp)).ends) dip).port), I6 ((alwE (wellL ks (getS (xs.map Svc.v) (fd, fp, fdp)).ends) dip).weight)], .bool (alwB (wellL ks (getS (xs.map Svc.v) (fd, fp, fdp)).ends) dip)]) ∧ Fr w w' [] := by
 refine enterD (n := 44) Tryz.func23 rfl rfl (Nat.le_of_ble_eq_true rfl) ?_
 intro Q0 hN hret hret'
 have hge_ : (getS (xs.map Svc.v) (fd, fp, fdp)).ends.length ≤ 1099511627776 := getS_lim hat
 have hwl_ : (wellL ks (getS (xs.map Svc.v) (fd, fp, fdp)).ends).length ≤ 1099511627776 := Nat.le_trans (List.length_filter_le _ _) hge_
 have hC := Cx.start w
 refine WCs (fun K1 hK2 => WCg (WLb hC (.cells #[I6 ce, I6 cn, .slice AS xs.length cS, .slice AN ns.length cN, .slice AK ks.length cK, .slice AL ls.length cL] 31) 3 (fun g3 w4 hb7 hF5 hC6 => WLb hC6 (.cells #[I6 fp, U4 fs, I6 fsp, U4 fd, I6 fdp] 55) 4 (fun g8 w9 aP aQ aD => WLb aD (.cells #[U4 0, I6 0, I6 0] 47) 6 (fun aC aR aS aT aa => WLq 1 [(7, .bool false)] (WLd rfl (QXn (hK2 _ _ ?_))))))))
 refine WCs (fun a3 aj => WCg (WLo 31 (P0 g3 0) (.agg #[I6 ce, I6 cn, .slice AS xs.length cS, .slice AN ns.length cN, .slice AK ks.length cK, .slice AL ls.length cL]) 13 (run_ld (aa.get 0 rfl) rfl) (WLq 1 [(14, P0 g8 3)] (WLo 40 (P0 g8 3) (U4 fd) 15 (run_ld (aa.get 1 rfl) rfl) (WLq 1 [(16, P0 g8 0)] ?_)))))
 refine WLo 3 (P0 g8 0) (I6 fp) 17 (run_ld (aa.get 1 rfl) rfl) (WLq 1 [(18, P0 g8 4)] (WLo 3 (P0 g8 4) (I6 fdp) 19 (run_ld (aa.get 1 rfl) rfl) (WLk (RService_ct ce cn AS cS xs AN cN ns AK cK ks AL cL ls fd fp fdp aR (Rd.fr hqS aa.fr) (fun s_ h_ => (hat s_ h_).fr aa.fr (fun _ _ => by simp)) (Rd.fr hqN aa.fr) (Rd.fr hqK aa.fr) (Rd.fr hqL aa.fr) hlS hlN hlK hlL) ?_)))
 rintro _ a4 ⟨ar, au, rfl, aE, av⟩
 refine ⟨_, rfl, ?_⟩
 have aF := aa.call aE
 have hrt_ := (av.rd hat).1
 refine WLz 3 [(22, .bool (hasS (xs.map Svc.v) (fd, fp, fdp))), (21, .agg #[U4 ((getS (xs.map Svc.v) (fd, fp, fdp)).vip), I6 ((getS (xs.map Svc.v) (fd, fp, fdp)).proto), I6 ((getS (xs.map Svc.v) (fd, fp, fdp)).port), .slice ar ((getS (xs.map Svc.v) (fd, fp, fdp)).ends.length) au])] (WLb aF (.cells #[U4 0, I6 0, I6 0, .slice none 0 0] 43) 8 (fun aG a5 aU aV aH => WLv (c' := #[U4 ((getS (xs.map Svc.v) (fd, fp, fdp)).vip), I6 ((getS (xs.map Svc.v) (fd, fp, fdp)).proto), I6 ((getS (xs.map Svc.v) (fd, fp, fdp)).port), .slice ar ((getS (xs.map Svc.v) (fd, fp, fdp)).ends.length) au]) aH 3 43 aG 0 (.agg #[U4 ((getS (xs.map Svc.v) (fd, fp, fdp)).vip), I6 ((getS (xs.map Svc.v) (fd, fp, fdp)).proto), I6 ((getS (xs.map Svc.v) (fd, fp, fdp)).port), .slice ar ((getS (xs.map Svc.v) (fd, fp, fdp)).ends.length) au]) (fun aW aX ac => WLz 1 [] (WLd rfl (QXn (aj _ _ (WCs (fun a6 ak => WCg ?_))))))))
 refine WLo 31 (P0 g3 0) (.agg #[I6 ce, I6 cn, .slice AS xs.length cS, .slice AN ns.length cN, .slice AK ks.length cK, .slice AL ls.length cL]) 23 (run_ld (ac.get 0 rfl) rfl) (WLo 43 (P0 aG 0) (.agg #[U4 ((getS (xs.map Svc.v) (fd, fp, fdp)).vip), I6 ((getS (xs.map Svc.v) (fd, fp, fdp)).proto), I6 ((getS (xs.map Svc.v) (fd, fp, fdp)).port), .slice ar ((getS (xs.map Svc.v) (fd, fp, fdp)).ends.length) au]) 24 (run_ld (ac.get 3 rfl) rfl) (WLk (RHealthy_n ce cn AS cS xs AN cN ns AK cK ks AL cL ls ((getS (xs.map Svc.v) (fd, fp, fdp)).vip) ((getS (xs.map Svc.v) (fd, fp, fdp)).proto) ((getS (xs.map Svc.v) (fd, fp, fdp)).port) ar au ((getS (xs.map Svc.v) (fd, fp, fdp)).ends) ((getS (xs.map Svc.v) (fd, fp, fdp)).ends.length) aW (Rd.fr hqS ac.fr) (fun s_ h_ => (hat s_ h_).fr ac.fr (fun _ _ => by simp)) (Rd.fr hqN ac.fr) (Rd.fr hqK ac.fr) (Rd.fr hqL ac.fr) hlS hlN hlK hlL (Rd.fr hrt_ ac.fr) (by first | omega | (simp; done)) rfl) ?_))
 rintro _ a7 ⟨v_, rfl, aI, af⟩
 have aJ := ac.callN aI (own_ge af) (own_lt af)
 obtain ⟨ah, ai, rfl, aO⟩ := own_form af
 have aK := own_base (b' := 0) af (fun _ _ => Nat.zero_le _)
 refine ⟨_, rfl, ?_⟩
 refine WLq 1 [(10, .slice ah ((wellL ks ((getS (xs.map Svc.v) (fd, fp, fdp)).ends)).length) ai)] (WLd rfl (QXn (ak _ _ (WCs (fun a8 al => WCs (fun a9 am => WCg (WLq 1 [(11, I6 0)] (WLd rfl (QXn (am _ _ (WC.block (WC.loop (fun m_ E_ w_ => ∃ (i : Nat), m_ = (wellL ks ((getS (xs.map Svc.v) (fd, fp, fdp)).ends)).length - i ∧ E_ = [(2, U4 dip), (3, P0 g3 0), (4, P0 g8 0), (6, P0 aC 0), (10, .slice ah ((wellL ks ((getS (xs.map Svc.v) (fd, fp, fdp)).ends)).length) ai), (11, I6 (i : Int))] ∧ Cx w [] w_ [(g3, .cells #[I6 ce, I6 cn, .slice AS xs.length cS, .slice AN ns.length cN, .slice AK ks.length cK, .slice AL ls.length cL] 31), (g8, .cells #[I6 fp, U4 fs, I6 fsp, U4 fd, I6 fdp] 55), (aC, .cells #[U4 0, I6 0, I6 0] 47), (aG, .cells #[U4 ((getS (xs.map Svc.v) (fd, fp, fdp)).vip), I6 ((getS (xs.map Svc.v) (fd, fp, fdp)).proto), I6 ((getS (xs.map Svc.v) (fd, fp, fdp)).port), .slice ar ((getS (xs.map Svc.v) (fd, fp, fdp)).ends.length) au] 43)] [blk (.slice ah ((wellL ks ((getS (xs.map Svc.v) (fd, fp, fdp)).ends)).length) ai)] ∧ World.ownsRow w_ 0 47 3 (.slice ah ((wellL ks ((getS (xs.map Svc.v) (fd, fp, fdp)).ends)).length) ai) ((wellL ks ((getS (xs.map Svc.v) (fd, fp, fdp)).ends)).length) ((wellL ks ((getS (xs.map Svc.v) (fd, fp, fdp)).ends)).flatMap cellsE) ∧ (i ≤ (wellL ks ((getS (xs.map Svc.v) (fd, fp, fdp)).ends)).length ∧ ∀ y ∈ (wellL ks ((getS (xs.map Svc.v) (fd, fp, fdp)).ends)).take i, y.dip ≠ dip)) ⟨_, _, ⟨0, rfl, rfl, aJ, aK, Nat.zero_le _, (fun _ h_ => by simp at h_)⟩, sub_of ⟨rfl, rfl, rfl, rfl, rfl, rfl, trivial⟩⟩ (fun m54 E_ ba bb aL aM => ?_)))))))))))))
 obtain ⟨i, rfl, rfl, an, row46_m54, hi, hno⟩ := aM
 refine WCs (fun bc ao => WCs (fun bd ap => WCg (WLz 4 [(29, .bool (decide ((i : Int) < ((wellL ks ((getS (xs.map Svc.v) (fd, fp, fdp)).ends)).length : Int))))] (WLd rfl (QXn (ap _ _ (WCa 29 (decide ((i : Int) < ((wellL ks ((getS (xs.map Svc.v) (fd, fp, fdp)).ends)).length : Int))) rfl (fun aq => ?_) (fun aq => ?_))))))))
 ·
  have aY : (i : Int) < ((wellL ks ((getS (xs.map Svc.v) (fd, fp, fdp)).ends)).length : Int) := by have q_ := of_decide_eq_true aq; omega
  refine WCt rfl (WC.skip (QXn (ao _ _ (WCs (fun be aw => WC.block (WCs (fun bf ax => ?_)))))))
  refine WCg (WLq 2 [(33, I6 (i : Int)), (32, .slice ah ((wellL ks ((getS (xs.map Svc.v) (fd, fp, fdp)).ends)).length) ai)] ?_)
  have aZ := own_count cellsE_len (by decide) row46_m54
  obtain ⟨ab, ad⟩ := get_some (xs := (wellL ks ((getS (xs.map Svc.v) (fd, fp, fdp)).ends))) (i := i) (by omega)
  obtain ⟨b68, ag⟩ := own_addr (by decide) cellsE_len row46_m54 ad
  refine WLi ah ((wellL ks ((getS (xs.map Svc.v) (fd, fp, fdp)).ends)).length) ai 34 .i64 (i : Int) b68 0 i 3 (by kernel_rfl) ag (by omega) (by omega) (i * 3) (by first | (simp; done) | omega) (WLq 1 [(35, P0 b68 (i * 3))] (WLo 40 (P0 b68 (i * 3)) (U4 ab.dip) 36 (run_load1 rfl (by simpa [Nat.add_assoc] using Rd.cell (own_rd row46_m54 cellsE_len (by decide)) ag ad 0 _ rfl)) (WLz 2 [(38, .bool (ab.dip == dip))] (WLd rfl (QXn (ax _ _ (WCa 38 (ab.dip == dip) rfl (fun ae => ?_) (fun ae => ?_))))))))
  ·
   have a0 : ab.dip = dip := by simpa using ae
   refine WCt rfl (WCs (fun bg ay => WCg (WLq 2 [(40, I6 (i : Int)), (39, .slice ah ((wellL ks ((getS (xs.map Svc.v) (fd, fp, fdp)).ends)).length) ai)] (WLi ah ((wellL ks ((getS (xs.map Svc.v) (fd, fp, fdp)).ends)).length) ai 41 .i64 (i : Int) b68 0 i 3 (by kernel_rfl) ag (by omega) (by omega) (i * 3) (by first | (simp; done) | omega) (WLo 47 (P0 b68 (i * 3)) (.agg #[U4 ab.dip, I6 ab.port, I6 ab.weight]) 42 (run_rdN (l := [U4 ab.dip, I6 ab.port, I6 ab.weight]) rfl rfl (fun j u hu => by have hq_ := Rd.cell (own_rd row46_m54 cellsE_len (by decide)) ag ad j u hu; simpa [Nat.add_assoc] using hq_)) (WLv (c' := #[U4 ab.dip, I6 ab.port, I6 ab.weight]) an 2 47 aC 0 (.agg #[U4 ab.dip, I6 ab.port, I6 ab.weight]) (fun bh a1 az => ?_)))))))
   refine WLq 1 [(7, .bool true)] (WLd rfl (QXn (ay _ _ (WC.ret (QXk (QXr (QXr (QXk ?_))))))))
   refine QXr ?_
   refine (hret' _ _ (.tuple #[.agg #[U4 ab.dip, I6 ab.port, I6 ab.weight], .bool true]) (fun a ha => ?_) ?_).1
   ·
    exact res_run ha ((ResR.cell rfl (run_ld (az.get 2 rfl) rfl) (ResR.tmp rfl ResR.nil))) rfl
   clear hN hret hret' ay ax aw ap ao am al ak aj hK2
   obtain ⟨ha1_, ha2_⟩ := alw_hit ad (by simpa using ae) hno
   rw [ha1_, ha2_]
   exact ⟨rfl, az.fr⟩
  ·
   have a0 : ¬ (ab.dip = dip) := by simpa using ae
   refine WCf rfl (WC.skip (QXb (QXn (aw _ _ (WCg (WLz 2 [(31, I6 (IntKind.i64.wrap ((i : Int) + 1)))] (WLt (show (I6 (IntKind.i64.wrap ((i : Int) + 1)) : Value) = I6 ((i : Int) + 1) from by rw [wrap_in_i64 ((i : Int) + 1) (by omega) (by omega)]) ?_)))))))
   refine WLq 1 [(11, I6 ((i : Int) + 1))] (WLd rfl (QXn ?_))
   have aN := an.pick [0, 1, 2, 3] [0] rfl rfl
   refine fun a_ ha_ => aL _ _ _ ?_ ⟨i + 1, rfl, rfl, aN, row46_m54, by omega, take_noE ad (by simpa using ae) hno⟩ a_ (ha_.weaken (sub_of ⟨rfl, rfl, rfl, rfl, rfl, rfl, trivial⟩))
   omega
 ·
  have aY : ((wellL ks ((getS (xs.map Svc.v) (fd, fp, fdp)).ends)).length : Int) ≤ (i : Int) := by have q_ := of_decide_eq_false aq; omega
  refine WCf rfl (WC.exit (QXe (QXe (QX.block_hit (QXn (al _ _ ?_))))))
  refine WCs (fun bi aA => WCg (WLq 1 [(43, .agg #[U4 0, I6 0, I6 0])] (WLv (c' := #[U4 0, I6 0, I6 0]) an 2 47 aC 0 (.agg #[U4 0, I6 0, I6 0]) (fun bj a2 aB => WLq 1 [(7, .bool false)] (WLd rfl (QXn (aA _ _ (WC.ret ?_))))))))
  refine (hret' _ _ (.tuple #[.agg #[U4 0, I6 0, I6 0], .bool false]) (fun a ha => ?_) ?_).1
  ·
   exact res_run ha ((ResR.cell rfl (run_ld (aB.get 2 rfl) rfl) (ResR.tmp rfl ResR.nil))) rfl
  clear hN hret hret' aA ap ao am al ak aj hK2
  obtain ⟨ha1_, ha2_⟩ := alw_none (by omega) hno
  rw [ha1_, ha2_]
  exact ⟨rfl, aB.fr⟩

set_option maxHeartbeats 1000000 in
theorem RVips_ct (ce cn : Int) (AS : Option Addr) (cS : Nat) (xs : List Svc) (AN : Option Addr) (cN : Nat) (ns : List SnatV) (AK : Option Addr) (cK : Nat) (ks : List Int) (AL : Option Addr) (cL : Nat) (ls : List Lease) (w : World) (hqS : Rd w 4 cellsS AS xs) (hat : ∀ s ∈ xs, svcAt w s) (hqN : Rd w 2 cellsN AN ns) (hqK : Rd w 1 (Go.Tw.encI .u32) AK ks) (hqL : Rd w 4 encL AL ls) (hlS : xs.length ≤ 1099511627776) (hlN : ns.length ≤ 1099511627776) (hlK : ks.length ≤ 1099511627776) (hlL : ls.length ≤ 1099511627776) (hvt : xs.length + (ns.length + ls.length) ≤ 1099511627776) : Calls Tryz.prog 28 #[.agg #[I6 ce, I6 cn, .slice AS xs.length cS, .slice AN ns.length cN, .slice AK ks.length cK, .slice AL ls.length cL]] w fun e w' => ∃ v, e = .returned v ∧ Fr w w' [] ∧ w'.ownsRow w.heap.size 40 1 v (vipF (vL xs ns ls)).length (((vipF (vL xs ns ls)).flatMap (Go.Tw.encI .u32))) := by
 refine enterD (n := 53) Tryz.func28 rfl rfl (Nat.le_of_ble_eq_true rfl) ?_
 intro Q0 hN hret hret'
 have hC := Cx.start w
 refine WCs (fun K1 hK2 => WCg (WLb hC (.cells #[I6 ce, I6 cn, .slice AS xs.length cS, .slice AN ns.length cN, .slice AK ks.length cK, .slice AL ls.length cL] 31) 1 (fun g3 w4 hb7 hF5 hC6 => WLq 1 [(2, .slice none 0 0)] (WLd rfl (QXn (hK2 _ _ (WCs (fun K8 hK9 => WCg (WLq 1 [(3, .slice none 0 0)] (WLd rfl (QXn (hK9 _ _ ?_))))))))))))
 refine WCs (fun bo am => WCs (fun bp an => WCg (WLq 1 [(4, I6 0)] (WLd rfl (QXn (an _ _ (WC.block ?_)))))))
 have aL := hC6.addNil
 refine WC.loop (fun m_ E_ w_ => ∃ (i : Nat) (A0 : Option Addr) (n0 c0 : Nat), m_ = xs.length - i ∧ E_ = [(1, P0 g3 0), (2, .slice none 0 0), (3, .slice A0 n0 c0), (4, I6 (i : Int))] ∧ Cx w [] w_ [(g3, .cells #[I6 ce, I6 cn, .slice AS xs.length cS, .slice AN ns.length cN, .slice AK ks.length cK, .slice AL ls.length cL] 31)] [blk (.slice A0 n0 c0)] ∧ World.ownsRow w_ 0 40 1 (.slice A0 n0 c0) n0 ((vipF (vL (xs.take i) [] [])).flatMap (Go.Tw.encI .u32)) ∧ (i ≤ xs.length)) ⟨_, _, ⟨0, none, 0, 0, rfl, rfl, aL, own_nil _ _ _ _, Nat.zero_le _⟩, sub_of ⟨rfl, rfl, rfl, rfl, trivial⟩⟩ (fun m18 E_ bh bq aM aN => ?_)
 obtain ⟨i, A0, n0, c0, rfl, rfl, ac, hrow0, hi⟩ := aN
 have hon0_ := own_count (Go.Tw.encI_len .u32) (by decide) hrow0
 obtain ⟨hvs0_, _, hvl0_⟩ := vipF_spec (vL (xs.take i) [] [])
 rw [vL_len] at hvl0_
 simp only [List.length_take, List.length_nil] at hvl0_
 refine WCs (fun br ao => WCs (fun bs ap => WCg (WLq 2 [(8, P0 g3 2), (7, I6 (i : Int))] (WLo 26 (P0 g3 2) (.slice AS xs.length cS) 9 (run_ld (ac.get 0 rfl) rfl) (WLz 2 [(11, .bool (decide ((i : Int) < (xs.length : Int))))] (WLd rfl (QXn (ap _ _ (WCa 11 (decide ((i : Int) < (xs.length : Int))) rfl (fun ai => ?_) (fun ai => ?_))))))))))
 ·
  have bi : (i : Int) < (xs.length : Int) := by have q_ := of_decide_eq_true ai; omega
  refine WCt rfl (WC.skip (QXn (ao _ _ (WCs (fun bt aO => WC.block (WCg (WLq 2 [(15, P0 g3 2), (14, .slice A0 n0 c0)] ?_)))))))
  refine WLo 26 (P0 g3 2) (.slice AS xs.length cS) 16 (run_ld (ac.get 0 rfl) rfl) (WLq 1 [(17, I6 (i : Int))] ?_)
  obtain ⟨aH, aj⟩ := get_some (xs := xs) (i := i) (by omega)
  obtain ⟨b30, o32, aP, aQ⟩ := hqS.at_ _ _ aj
  have ae := hat _ (List.mem_of_getElem? aj)
  have aI := ae.lim
  refine WLi AS xs.length cS 18 .i64 (i : Int) b30 o32 i 4 (by kernel_rfl) aP (by omega) (by omega) (o32 + i * 4) (by first | (simp; done) | omega) (WLq 1 [(19, P0 b30 (o32 + i * 4))] (WLo 40 (P0 b30 (o32 + i * 4)) (U4 aH.v.vip) 20 (run_load1 rfl (by simpa [Nat.add_assoc] using ac.fr.cell (aQ 0 _ rfl) (by simp))) (WLk (withA_n A0 c0 (vipF (vL (xs.take i) [] [])) aH.v.vip false n0 bh (own_rd hrow0 (Go.Tw.encI_len _) (by decide)) hvs0_ (by omega) (by omega)) ?_)))
  rintro _ bu ⟨v_, rfl, aR, af⟩
  obtain ⟨bb, bc, rfl, bd⟩ := own_form af
  have aS := ac.callF 0 rfl (aR.mono (by simp)) (fun x_ h_ => .inr (own_ge af x_ h_)) (own_lt af)
  have aT := own_base (b' := 0) af (fun _ _ => Nat.zero_le _)
  refine ⟨_, rfl, ?_⟩
  refine WLq 1 [(3, .slice bb ((putK kA (vipF (vL (xs.take i) [] [])) aH.v.vip false).length) bc)] (WLd rfl (QXb (QXn (aO _ _ (WCg (WLz 2 [(13, I6 (IntKind.i64.wrap ((i : Int) + 1)))] ?_))))))
  refine WLt (show (I6 (IntKind.i64.wrap ((i : Int) + 1)) : Value) = I6 ((i : Int) + 1) from by rw [wrap_in_i64 ((i : Int) + 1) (by omega) (by omega)]) (WLq 1 [(4, I6 ((i : Int) + 1))] (WLd rfl (QXn ?_)))
  have aU := aS.pick [0] [0] rfl rfl
  refine fun a_ ha_ => aM _ _ _ ?_ ⟨i + 1, bb, (putK kA (vipF (vL (xs.take i) [] [])) aH.v.vip false).length, bc, rfl, rfl, aU, (by rw [vL_1 aj, vipF_snoc]; exact aT), by omega⟩ a_ (ha_.weaken (sub_of ⟨rfl, rfl, rfl, rfl, trivial⟩))
  omega
 ·
  have bi : (xs.length : Int) ≤ (i : Int) := by have q_ := of_decide_eq_false ai; omega
  refine WCf rfl (WC.exit (QXe (QXe (QX.block_hit (QXn (am _ _ ?_))))))
  refine WCs (fun bv aq => WCs (fun bw ar => WCg (WLq 1 [(5, I6 0)] (WLd rfl (QXn (ar _ _ (WC.block (WC.loop (fun m_ E_ w_ => ∃ (j : Nat) (A1 : Option Addr) (n1 c1 : Nat), m_ = ns.length - j ∧ E_ = [(1, P0 g3 0), (2, .slice none 0 0), (3, .slice A1 n1 c1), (5, I6 (j : Int))] ∧ Cx w [] w_ [(g3, .cells #[I6 ce, I6 cn, .slice AS xs.length cS, .slice AN ns.length cN, .slice AK ks.length cK, .slice AL ls.length cL] 31)] [blk (.slice A1 n1 c1)] ∧ World.ownsRow w_ 0 40 1 (.slice A1 n1 c1) n1 ((vipF (vL xs (ns.take j) [])).flatMap (Go.Tw.encI .u32)) ∧ (j ≤ ns.length)) ⟨_, _, ⟨0, A0, n0, c0, rfl, rfl, ac, (by have ho_ := hrow0; rw [List.take_of_length_le (by omega)] at ho_; simpa using ho_), Nat.zero_le _⟩, sub_of ⟨rfl, rfl, rfl, rfl, trivial⟩⟩ (fun m50 E_ bj bx aV aW => ?_)))))))))
  obtain ⟨j, A1, n1, c1, rfl, rfl, ad, hrow1, hj⟩ := aW
  have hon1_ := own_count (Go.Tw.encI_len .u32) (by decide) hrow1
  obtain ⟨hvs1_, _, hvl1_⟩ := vipF_spec (vL xs (ns.take j) [])
  rw [vL_len] at hvl1_
  simp only [List.length_take, List.length_nil] at hvl1_
  refine WCs (fun bz au => WCs (fun bA av => WCg (WLq 2 [(23, P0 g3 3), (22, I6 (j : Int))] (WLo 27 (P0 g3 3) (.slice AN ns.length cN) 24 (run_ld (ad.get 0 rfl) rfl) (WLz 2 [(26, .bool (decide ((j : Int) < (ns.length : Int))))] (WLd rfl (QXn (av _ _ (WCa 26 (decide ((j : Int) < (ns.length : Int))) rfl (fun ak => ?_) (fun ak => ?_))))))))))
  ·
   have bk : (j : Int) < (ns.length : Int) := by have q_ := of_decide_eq_true ak; omega
   refine WCt rfl (WC.skip (QXn (au _ _ (WCs (fun bB aX => WC.block (WCg (WLq 2 [(30, P0 g3 3), (29, .slice A1 n1 c1)] ?_)))))))
   refine WLo 27 (P0 g3 3) (.slice AN ns.length cN) 31 (run_ld (ad.get 0 rfl) rfl) (WLq 1 [(32, I6 (j : Int))] ?_)
   obtain ⟨aJ, aw⟩ := get_some (xs := ns) (i := j) (by omega)
   obtain ⟨b62, o64, aY, aZ⟩ := hqN.at_ _ _ aw
   refine WLi AN ns.length cN 33 .i64 (j : Int) b62 o64 j 2 (by kernel_rfl) aY (by omega) (by omega) (o64 + j * 2) (by first | (simp; done) | omega) (WLq 1 [(34, P0 b62 (o64 + j * 2 + 1))] (WLo 40 (P0 b62 (o64 + j * 2 + 1)) (U4 aJ.vip) 35 (run_load1 rfl (by simpa [Nat.add_assoc] using ad.fr.cell (aZ 1 _ rfl) (by simp))) (WLk (withA_n A1 c1 (vipF (vL xs (ns.take j) [])) aJ.vip false n1 bj (own_rd hrow1 (Go.Tw.encI_len _) (by decide)) hvs1_ (by omega) (by omega)) ?_)))
   rintro _ bC ⟨v_, rfl, a0, ag⟩
   obtain ⟨be, bf, rfl, bg⟩ := own_form ag
   have a1 := ad.callF 0 rfl (a0.mono (by simp)) (fun x_ h_ => .inr (own_ge ag x_ h_)) (own_lt ag)
   have a2 := own_base (b' := 0) ag (fun _ _ => Nat.zero_le _)
   refine ⟨_, rfl, ?_⟩
   refine WLq 1 [(3, .slice be ((putK kA (vipF (vL xs (ns.take j) [])) aJ.vip false).length) bf)] (WLd rfl (QXb (QXn (aX _ _ (WCg (WLz 2 [(28, I6 (IntKind.i64.wrap ((j : Int) + 1)))] ?_))))))
   refine WLt (show (I6 (IntKind.i64.wrap ((j : Int) + 1)) : Value) = I6 ((j : Int) + 1) from by rw [wrap_in_i64 ((j : Int) + 1) (by omega) (by omega)]) (WLq 1 [(5, I6 ((j : Int) + 1))] (WLd rfl (QXn ?_)))
   have a3 := a1.pick [0] [0] rfl rfl
   refine fun a_ ha_ => aV _ _ _ ?_ ⟨j + 1, be, (putK kA (vipF (vL xs (ns.take j) [])) aJ.vip false).length, bf, rfl, rfl, a3, (by rw [vL_2 aw, vipF_snoc]; exact a2), by omega⟩ a_ (ha_.weaken (sub_of ⟨rfl, rfl, rfl, rfl, trivial⟩))
   omega
  ·
   have bk : (ns.length : Int) ≤ (j : Int) := by have q_ := of_decide_eq_false ak; omega
   refine WCf rfl (WC.exit (QXe (QXe (QX.block_hit (QXn (aq _ _ ?_))))))
   refine WCs (fun bD ax => WCs (fun bE ay => WCg (WLq 1 [(6, I6 0)] (WLd rfl (QXn (ay _ _ (WC.block (WC.loop (fun m_ E_ w_ => ∃ (k : Nat) (A2 : Option Addr) (n2 c2 : Nat), m_ = ls.length - k ∧ E_ = [(1, P0 g3 0), (2, .slice none 0 0), (3, .slice A2 n2 c2), (6, I6 (k : Int))] ∧ Cx w [] w_ [(g3, .cells #[I6 ce, I6 cn, .slice AS xs.length cS, .slice AN ns.length cN, .slice AK ks.length cK, .slice AL ls.length cL] 31)] [blk (.slice A2 n2 c2)] ∧ World.ownsRow w_ 0 40 1 (.slice A2 n2 c2) n2 ((vipF (vL xs ns (ls.take k))).flatMap (Go.Tw.encI .u32)) ∧ (k ≤ ls.length)) ⟨_, _, ⟨0, A1, n1, c1, rfl, rfl, ad, (by have ho_ := hrow1; rw [List.take_of_length_le (by omega)] at ho_; simpa using ho_), Nat.zero_le _⟩, sub_of ⟨rfl, rfl, rfl, rfl, trivial⟩⟩ (fun m82 E_ bl bF a4 a5 => ?_)))))))))
   obtain ⟨k, A2, n2, c2, rfl, rfl, ab, hrow2, hk⟩ := a5
   have hon2_ := own_count (Go.Tw.encI_len .u32) (by decide) hrow2
   obtain ⟨hvs2_, _, hvl2_⟩ := vipF_spec (vL xs ns (ls.take k))
   rw [vL_len] at hvl2_
   simp only [List.length_take, List.length_nil] at hvl2_
   refine WCs (fun bG az => WCs (fun bH aA => WCg (WLq 2 [(38, P0 g3 5), (37, I6 (k : Int))] (WLo 29 (P0 g3 5) (.slice AL ls.length cL) 39 (run_ld (ab.get 0 rfl) rfl) (WLz 2 [(41, .bool (decide ((k : Int) < (ls.length : Int))))] (WLd rfl (QXn (aA _ _ (WCa 41 (decide ((k : Int) < (ls.length : Int))) rfl (fun al => ?_) (fun al => ?_))))))))))
   ·
    have bm : (k : Int) < (ls.length : Int) := by have q_ := of_decide_eq_true al; omega
    refine WCt rfl (WC.skip (QXn (az _ _ (WCs (fun bI a6 => WC.block (WCg (WLq 2 [(45, P0 g3 5), (44, .slice A2 n2 c2)] ?_)))))))
    refine WLo 29 (P0 g3 5) (.slice AL ls.length cL) 46 (run_ld (ab.get 0 rfl) rfl) (WLq 1 [(47, I6 (k : Int))] ?_)
    obtain ⟨aK, aB⟩ := get_some (xs := ls) (i := k) (by omega)
    obtain ⟨b94, o96, a7, a8⟩ := hqL.at_ _ _ aB
    refine WLi AL ls.length cL 48 .i64 (k : Int) b94 o96 k 4 (by kernel_rfl) a7 (by omega) (by omega) (o96 + k * 4) (by first | (simp; done) | omega) (WLq 1 [(49, P0 b94 (o96 + k * 4))] (WLo 40 (P0 b94 (o96 + k * 4)) (U4 aK.vip) 50 (run_load1 rfl (by simpa [Nat.add_assoc] using ab.fr.cell (a8 0 _ rfl) (by simp))) (WLk (withA_n A2 c2 (vipF (vL xs ns (ls.take k))) aK.vip false n2 bl (own_rd hrow2 (Go.Tw.encI_len _) (by decide)) hvs2_ (by omega) (by omega)) ?_)))
    rintro _ bJ ⟨v_, rfl, a9, aa⟩
    obtain ⟨aC, aD, rfl, ba⟩ := own_form aa
    have aE := ab.callF 0 rfl (a9.mono (by simp)) (fun x_ h_ => .inr (own_ge aa x_ h_)) (own_lt aa)
    have aF := own_base (b' := 0) aa (fun _ _ => Nat.zero_le _)
    refine ⟨_, rfl, ?_⟩
    refine WLq 1 [(3, .slice aC ((putK kA (vipF (vL xs ns (ls.take k))) aK.vip false).length) aD)] (WLd rfl (QXb (QXn (a6 _ _ (WCg (WLz 2 [(43, I6 (IntKind.i64.wrap ((k : Int) + 1)))] ?_))))))
    refine WLt (show (I6 (IntKind.i64.wrap ((k : Int) + 1)) : Value) = I6 ((k : Int) + 1) from by rw [wrap_in_i64 ((k : Int) + 1) (by omega) (by omega)]) (WLq 1 [(6, I6 ((k : Int) + 1))] (WLd rfl (QXn ?_)))
    have aG := aE.pick [0] [0] rfl rfl
    refine fun a_ ha_ => a4 _ _ _ ?_ ⟨k + 1, aC, (putK kA (vipF (vL xs ns (ls.take k))) aK.vip false).length, aD, rfl, rfl, aG, (by rw [vL_3 aB, vipF_snoc]; exact aF), by omega⟩ a_ (ha_.weaken (sub_of ⟨rfl, rfl, rfl, rfl, trivial⟩))
    omega
   ·
    have bm : (ls.length : Int) ≤ (k : Int) := by have q_ := of_decide_eq_false al; omega
    refine WCf rfl (WC.exit (QXe (QXe (QX.block_hit (QXn (ax _ _ ?_))))))
    refine WCs (fun bn ah => WCg (WLz 2 [(2, .slice A2 n2 c2)] (WLd rfl (QXn (ah _ _ (WC.ret ?_))))))
    refine (hret _ _ _ rfl ?_).1
    clear hN hret hret' ah aA az ay ax av au ar aq ap ao an am hK9 hK2
    have ho_ := hrow2
    rw [List.take_of_length_le (by omega)] at ho_
    have hn_ := own_count (Go.Tw.encI_len .u32) (by decide) ho_
    subst hn_
    exact ⟨_, rfl, ab.fr, own_base ho_ (ab.geF 0 rfl)⟩

end Go.Proofs.YtfligklljkcbfaaGreatDoor
