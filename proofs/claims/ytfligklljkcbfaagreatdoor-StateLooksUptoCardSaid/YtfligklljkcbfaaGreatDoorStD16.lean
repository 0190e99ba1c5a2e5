/- Contracts of functions of the program, each proved by a walk through its code; conditions stand in the statements. -/
import Derived.Test.YtfligklljkcbfaaGreatDoorStC16
namespace Go.Proofs.YtfligklljkcbfaaGreatDoor
set_option linter.unusedSimpArgs false
set_option linter.unusedVariables false
set_option linter.unusedSectionVars false
open Go Go.RowKit Go.Tw
set_option linter.unusedVariables false
set_option maxRecDepth 20000
def findP (vip port now : Int) (l : Lease) : Bool := decide (l.vip = vip) && livesB l now && decide (l.first ≤ port) && decide (port - l.first < 8)
def pruneP (now : Int) (l : Lease) : Bool := livesB l now
def ofP (dip now : Int) (l : Lease) : Bool := decide (l.dip = dip) && livesB l now
theorem take_filter_snoc (p : Lease → Bool) {xs : List Lease} {k : Nat} {x : Lease} (h : xs[k]? = some x) : (xs.take (k + 1)).filter p = (xs.take k).filter p ++ if p x then [x] else [] := by
  obtain ⟨hk, rfl⟩ := List.getElem?_eq_some_iff.1 h
  rw [List.take_succ_eq_append_getElem hk, List.filter_append]
  by_cases hp : p xs[k] <;> simp [hp]
theorem filter_take_le (p : Lease → Bool) (xs : List Lease) (k : Nat) : ((xs.take k).filter p).length ≤ xs.length := Nat.le_trans (List.length_filter_le _ _) (by simp; omega)
theorem Of1_ct (l : Lease) (b1 b2 : Nat) (dip now : Int) (w : World) (h1 : w.cell? ⟨b1, 0, none⟩ = some (U4 dip)) (h2 : w.cell? ⟨b2, 0, none⟩ = some (I6 now)) : Calls Tryz.prog 123 #[.agg #[U4 l.vip, I6 l.first, U4 l.dip, I6 l.exp], P0 b1 0, P0 b2 0] w fun e w' => e = .returned (.bool (ofP dip now l)) ∧ Fr w w' [] := by
 refine enterD (n := 14) Tryz.func123 rfl rfl (Nat.le_of_ble_eq_true rfl) ?_
 intro Q0 hN hret hret'
 have hC := Cx.start w
 refine WCs (fun K1 hK2 => WCg (WLb hC (.cells #[U4 l.vip, I6 l.first, U4 l.dip, I6 l.exp] 50) 3 (fun g3 w4 hb7 hF5 hC6 => WLq 1 [(4, .bool false)] (WLd rfl (QXn (hK2 _ _ (WCs (fun K8 hK9 => WCg (WLq 1 [(5, P0 g3 2)] ?_)))))))))
 refine WLo 40 (P0 g3 2) (U4 l.dip) 6 (run_ld (hC6.get 0 rfl) rfl) (WLo 40 (P0 b1 0) (U4 dip) 7 (run_load1 rfl (hC6.fr.cell (h1) (by simp))) (WLz 2 [(9, .bool (l.dip == dip))] (WLa 9 (l.dip == dip) rfl (fun aa => ?_) (fun aa => ?_))))
 ·
  have ad : l.dip = dip := by simpa using aa
  refine WLo 50 (P0 g3 0) (.agg #[U4 l.vip, I6 l.first, U4 l.dip, I6 l.exp]) 10 (run_ld (hC6.get 0 rfl) rfl) (WLo 3 (P0 b2 0) (I6 now) 11 (run_load1 rfl (hC6.fr.cell (h2) (by simp))) (WLk (lives_ct l now w4) ?_))
  rintro _ ae ⟨rfl, ab⟩
  refine ⟨_, rfl, ?_⟩
  have ac := hC6.call ab
  refine WLz 2 [(4, .bool (livesB l now))] (WLd rfl (QXn (hK9 _ _ (WC.ret ?_))))
  refine (hret _ _ _ rfl ?_).1
  clear hN hret hret' hK9 hK2
  exact ⟨by simp [shut, ofP, *]; try grind, ac.fr⟩
 ·
  have ad : ¬ (l.dip = dip) := by simpa using aa
  refine WLz 5 [(4, .bool false)] (WLd rfl (QXn (hK9 _ _ (WC.ret ?_))))
  refine (hret _ _ _ rfl ?_).1
  clear hN hret hret' hK9 hK2
  exact ⟨by simp [shut, ofP, *]; try grind, hC6.fr⟩

theorem Prune1_ct (l : Lease) (b1 : Nat) (now : Int) (w : World) (h1 : w.cell? ⟨b1, 0, none⟩ = some (I6 now)) : Calls Tryz.prog 121 #[.agg #[U4 l.vip, I6 l.first, U4 l.dip, I6 l.exp], P0 b1 0] w fun e w' => e = .returned (.bool (pruneP now l)) ∧ Fr w w' [] := by
 refine enterD (n := 7) Tryz.func121 rfl rfl (Nat.le_of_ble_eq_true rfl) ?_
 intro Q0 hN hret hret'
 have hC := Cx.start w
 refine WCs (fun K1 hK2 => WCg (WLb hC (.cells #[U4 l.vip, I6 l.first, U4 l.dip, I6 l.exp] 50) 2 (fun g3 w4 hb7 hF5 hC6 => WLq 1 [(3, .bool false)] (WLd rfl (QXn (hK2 _ _ (WCs (fun K8 hK9 => WCg ?_))))))))
 refine WLo 50 (P0 g3 0) (.agg #[U4 l.vip, I6 l.first, U4 l.dip, I6 l.exp]) 4 (run_ld (hC6.get 0 rfl) rfl) (WLo 3 (P0 b1 0) (I6 now) 5 (run_load1 rfl (hC6.fr.cell (h1) (by simp))) (WLk (lives_ct l now w4) ?_))
 rintro _ ac ⟨rfl, aa⟩
 refine ⟨_, rfl, ?_⟩
 have ab := hC6.call aa
 refine WLq 1 [(3, .bool (livesB l now))] (WLd rfl (QXn (hK9 _ _ (WC.ret ?_))))
 refine (hret _ _ _ rfl ?_).1
 clear hN hret hret' hK9 hK2
 exact ⟨by simp [shut, pruneP, *]; try grind, ab.fr⟩

theorem picked_Of (A : Option Addr) (c : Nat) (xs : List Lease) (b1 b2 : Nat) (dip now : Int) (w : World) (hr : Rd w 4 encL A xs) (hwf : ∀ l ∈ xs, okL l) (hm : xs.length < 2 ^ 40) (h1 : w.cell? ⟨b1, 0, none⟩ = some (U4 dip)) (h2 : w.cell? ⟨b2, 0, none⟩ = some (I6 now)) : Calls Tryz.prog 120 #[.slice A xs.length c, .func (.func 123) #[] #[P0 b1 0, P0 b2 0]] w fun e w' => ∃ v, e = .returned v ∧ Fr w w' [] ∧ w'.ownsRow w.heap.size 50 4 v (xs.filter (ofP dip now)).length ((xs.filter (ofP dip now)).flatMap encL) := by
 refine enterD (n := 23) Tryz.func120 rfl rfl (Nat.le_of_ble_eq_true rfl) ?_
 intro Q0 hN hret hret'
 have hC := Cx.start w
 refine WCs (fun K1 hK2 => WCg (WLq 1 [(4, .slice none 0 0)] (WLd rfl (QXn (hK2 _ _ (WCs (fun K3 hK4 => WCg (WLq 1 [(5, .slice none 0 0)] (WLd rfl (QXn (hK4 _ _ (WCs (fun K5 hK6 => WCs (fun K7 hK8 => ?_))))))))))))))
 refine WCg (WLq 3 [(10, I6 0), (9, I6 (xs.length : Int)), (8, .slice A xs.length c)] (WLd rfl (QXn (hK8 _ _ (WC.block ?_)))))
 have hC9 := hC.addNil
 refine WC.loop (fun m_ E_ w_ => ∃ (k : Nat) (A5 : Option Addr) (n5 c5 : Nat), m_ = xs.length - k ∧ E_ = [(0, .slice A xs.length c), (1, .func (.func 123) #[] #[P0 b1 0, P0 b2 0]), (4, .slice none 0 0), (5, .slice A5 n5 c5), (8, .slice A xs.length c), (9, I6 (xs.length : Int)), (10, I6 (k : Int))] ∧ Cx w [] w_ [] [blk (.slice A5 n5 c5)] ∧ World.ownsRow w_ 0 50 4 (.slice A5 n5 c5) n5 (((xs.take k).filter (ofP dip now)).flatMap encL) ∧ (k ≤ xs.length ∧ n5 = ((xs.take k).filter (ofP dip now)).length)) ⟨_, _, ⟨0, none, 0, 0, rfl, rfl, hC9, own_nil _ _ _ _, Nat.zero_le _, rfl⟩, sub_of ⟨rfl, rfl, rfl, rfl, rfl, rfl, rfl, trivial⟩⟩ (fun m13 E_ aV aW ah ar => ?_)
 obtain ⟨k, A5, n5, c5, rfl, rfl, ac, hrow, hk, hn5⟩ := ar
 have hfl := filter_take_le (ofP dip now) xs k
 refine WCs (fun aX ai => WCg (WLq 1 [(11, .bool (decide ((k : Int) < (xs.length : Int))))] (WLd rfl (QXn (ai _ _ (WCs (fun aY aj => WCa 11 (decide ((k : Int) < (xs.length : Int))) rfl (fun ae => ?_) (fun ae => ?_))))))))
 ·
  have aQ : (k : Int) < (xs.length : Int) := by have q_ := of_decide_eq_true ae; omega
  refine WCt rfl (WC.skip (QXn (aj _ _ (WCs (fun aZ ak => WC.block (WCs (fun a0 au => ?_)))))))
  refine WCg ?_
  obtain ⟨aa, ab⟩ := get_some (xs := xs) (i := k) (by omega)
  obtain ⟨b27, o29, av, aw⟩ := hr.at_ _ _ ab
  have hok_e25 := hwf _ (List.mem_of_getElem? ab)
  refine WLi A xs.length c 12 .i64 (k : Int) b27 o29 k 4 (by kernel_rfl) av (by omega) (by omega) (o29 + k * 4) (by first | (simp; done) | omega) (WLo 50 (P0 b27 (o29 + k * 4)) (.agg #[U4 aa.vip, I6 aa.first, U4 aa.dip, I6 aa.exp]) 13 (run_rdN (l := [U4 aa.vip, I6 aa.first, U4 aa.dip, I6 aa.exp]) rfl rfl (fun j u hu => by have hq_ := ac.fr.cell (aw j u hu) (by simp); simpa [Nat.add_assoc] using hq_)) (WLb ac (.cells #[U4 0, I6 0, U4 0, I6 0] 50) 7 (fun ax a1 aR ay al => ?_)))
  have az := own_fr hrow ay (by simp)
  refine WLv (c' := #[U4 aa.vip, I6 aa.first, U4 aa.dip, I6 aa.exp]) al 0 50 ax 0 (.agg #[U4 aa.vip, I6 aa.first, U4 aa.dip, I6 aa.exp]) (fun aS aA ad => ?_)
  have aB := own_fr az aA (al.apartM 0 0 rfl rfl)
  refine WLd rfl (QXn (au _ _ (WCs (fun a2 aC => WCg (WLq 1 [(14, .func (.func 123) #[] #[P0 b1 0, P0 b2 0])] (WLo 50 (P0 ax 0) (.agg #[U4 aa.vip, I6 aa.first, U4 aa.dip, I6 aa.exp]) 15 (run_ld (ad.get 0 rfl) rfl) (WLk (Of1_ct aa b1 b2 dip now aS (ad.fr.cell h1 (by simp)) (ad.fr.cell h2 (by simp))) ?_)))))))
  rintro _ a3 ⟨rfl, am⟩
  refine ⟨_, rfl, ?_⟩
  have af := ad.call am
  have an := own_fr aB am (by simp)
  refine WLd rfl (QXn (aC _ _ (WCa 16 (ofP dip now aa) rfl (fun ag => ?_) (fun ag => ?_))))
  ·
   refine WCt rfl (WCg (WLq 1 [(17, .slice A5 n5 c5)] (WLo 50 (P0 ax 0) (.agg #[U4 aa.vip, I6 aa.first, U4 aa.dip, I6 aa.exp]) 18 (run_ld (af.get 0 rfl) rfl) (WL.newM af (fun b => .slice (some ⟨b, 0, none⟩) 1 1) (.cells #[U4 aa.vip, I6 aa.first, U4 aa.dip, I6 aa.exp] 50) 19 (fun _ => by kernel_rfl) (fun aO a4 aT aD ao => ?_)))))
   have aE := own_fr an aD (by simp)
   obtain ⟨a5, a6, aF, aG, aU, aH, aI, aJ⟩ := app_run Tryz.prog ao 0 (v := .slice A5 n5 c5) rfl 29 29 50 4 32 n5 1 1 (some ⟨aO, 0, none⟩) rfl aE [U4 aa.vip, I6 aa.first, U4 aa.dip, I6 aa.exp] rfl (srcOk.blk 1 (ao.get 1 rfl)) rfl (by simp only [maxLen]; omega) (by omega)
   have ap := own_snoc (enc := encL) (ys := ((xs.take k).filter (ofP dip now))) aa aG
   obtain ⟨aK, aL, rfl, aP⟩ := own_form ap
   refine WLS 20 aF (WLq 1 [(5, .slice aK (n5 + 1) aL)] (WLd rfl (QXb (QXn (ak _ _ (WCg (WLq 1 [(21, I6 (IntKind.i64.wrap ((k : Int) + 1)))] ?_)))))))
   refine WLt (show (I6 (IntKind.i64.wrap ((k : Int) + 1)) : Value) = I6 ((k : Int) + 1) from by rw [wrap_in_i64 ((k : Int) + 1) (by omega) (by omega)]) (WLq 1 [(10, I6 ((k : Int) + 1))] (WLd rfl (QXn ?_)))
   have aM := aH.pick [] [0] rfl rfl
   refine fun a_ ha_ => ah _ _ _ ?_ ⟨k + 1, aK, n5 + 1, aL, rfl, rfl, aM, by rw [take_filter_snoc (ofP dip now) ab, if_pos ag]; exact ap, by omega, by rw [take_filter_snoc (ofP dip now) ab]; simp [*]⟩ a_ (ha_.weaken (sub_of ⟨rfl, rfl, rfl, rfl, rfl, rfl, rfl, trivial⟩))
   omega
  ·
   refine WCf rfl (WC.skip (QXb (QXn (ak _ _ (WCg (WLq 1 [(21, I6 (IntKind.i64.wrap ((k : Int) + 1)))] (WLt (show (I6 (IntKind.i64.wrap ((k : Int) + 1)) : Value) = I6 ((k : Int) + 1) from by rw [wrap_in_i64 ((k : Int) + 1) (by omega) (by omega)]) (WLq 1 [(10, I6 ((k : Int) + 1))] ?_))))))))
   refine WLd rfl (QXn ?_)
   have aN := af.pick [] [0] rfl rfl
   refine fun a_ ha_ => ah _ _ _ ?_ ⟨k + 1, A5, n5, c5, rfl, rfl, aN, by rw [take_filter_snoc (ofP dip now) ab, if_neg (by rw [ag]; decide), List.append_nil]; exact an, by omega, by rw [take_filter_snoc (ofP dip now) ab]; simp [*]⟩ a_ (ha_.weaken (sub_of ⟨rfl, rfl, rfl, rfl, rfl, rfl, rfl, trivial⟩))
   omega
 ·
  have aQ : (xs.length : Int) ≤ (k : Int) := by have q_ := of_decide_eq_false ae; omega
  refine WCf rfl (WC.exit (QXe (QXe (QX.block_hit (QXn (hK6 _ _ ?_))))))
  refine WCs (fun a7 aq => WCg (WLz 2 [(4, .slice A5 n5 c5)] (WLd rfl (QXn (aq _ _ (WC.ret ?_))))))
  refine (hret _ _ _ rfl ?_).1
  clear hN hret hret' aq aj ai hK8 hK6 hK4 hK2
  have hk2 : xs.take k = xs := List.take_of_length_le (by omega)
  have ho_ := hrow
  rw [hk2] at ho_ hn5
  subst hn5
  exact ⟨_, rfl, ac.fr, own_base ho_ (ac.geF 0 rfl)⟩

theorem picked_Prune (A : Option Addr) (c : Nat) (xs : List Lease) (b1 : Nat) (now : Int) (w : World) (hr : Rd w 4 encL A xs) (hwf : ∀ l ∈ xs, okL l) (hm : xs.length < 2 ^ 40) (h1 : w.cell? ⟨b1, 0, none⟩ = some (I6 now)) : Calls Tryz.prog 120 #[.slice A xs.length c, .func (.func 121) #[] #[P0 b1 0]] w fun e w' => ∃ v, e = .returned v ∧ Fr w w' [] ∧ w'.ownsRow w.heap.size 50 4 v (xs.filter (pruneP now)).length ((xs.filter (pruneP now)).flatMap encL) := by
 refine enterD (n := 23) Tryz.func120 rfl rfl (Nat.le_of_ble_eq_true rfl) ?_
 intro Q0 hN hret hret'
 have hC := Cx.start w
 refine WCs (fun K1 hK2 => WCg (WLq 1 [(4, .slice none 0 0)] (WLd rfl (QXn (hK2 _ _ (WCs (fun K3 hK4 => WCg (WLq 1 [(5, .slice none 0 0)] (WLd rfl (QXn (hK4 _ _ (WCs (fun K5 hK6 => WCs (fun K7 hK8 => ?_))))))))))))))
 refine WCg (WLq 3 [(10, I6 0), (9, I6 (xs.length : Int)), (8, .slice A xs.length c)] (WLd rfl (QXn (hK8 _ _ (WC.block ?_)))))
 have hC9 := hC.addNil
 refine WC.loop (fun m_ E_ w_ => ∃ (k : Nat) (A5 : Option Addr) (n5 c5 : Nat), m_ = xs.length - k ∧ E_ = [(0, .slice A xs.length c), (1, .func (.func 121) #[] #[P0 b1 0]), (4, .slice none 0 0), (5, .slice A5 n5 c5), (8, .slice A xs.length c), (9, I6 (xs.length : Int)), (10, I6 (k : Int))] ∧ Cx w [] w_ [] [blk (.slice A5 n5 c5)] ∧ World.ownsRow w_ 0 50 4 (.slice A5 n5 c5) n5 (((xs.take k).filter (pruneP now)).flatMap encL) ∧ (k ≤ xs.length ∧ n5 = ((xs.take k).filter (pruneP now)).length)) ⟨_, _, ⟨0, none, 0, 0, rfl, rfl, hC9, own_nil _ _ _ _, Nat.zero_le _, rfl⟩, sub_of ⟨rfl, rfl, rfl, rfl, rfl, rfl, rfl, trivial⟩⟩ (fun m13 E_ aV aW ah ar => ?_)
 obtain ⟨k, A5, n5, c5, rfl, rfl, ac, hrow, hk, hn5⟩ := ar
 have hfl := filter_take_le (pruneP now) xs k
 refine WCs (fun aX ai => WCg (WLq 1 [(11, .bool (decide ((k : Int) < (xs.length : Int))))] (WLd rfl (QXn (ai _ _ (WCs (fun aY aj => WCa 11 (decide ((k : Int) < (xs.length : Int))) rfl (fun ad => ?_) (fun ad => ?_))))))))
 ·
  have aQ : (k : Int) < (xs.length : Int) := by have q_ := of_decide_eq_true ad; omega
  refine WCt rfl (WC.skip (QXn (aj _ _ (WCs (fun aZ ak => WC.block (WCs (fun a0 au => ?_)))))))
  refine WCg ?_
  obtain ⟨aa, ab⟩ := get_some (xs := xs) (i := k) (by omega)
  obtain ⟨b27, o29, av, aw⟩ := hr.at_ _ _ ab
  have hok_e25 := hwf _ (List.mem_of_getElem? ab)
  refine WLi A xs.length c 12 .i64 (k : Int) b27 o29 k 4 (by kernel_rfl) av (by omega) (by omega) (o29 + k * 4) (by first | (simp; done) | omega) (WLo 50 (P0 b27 (o29 + k * 4)) (.agg #[U4 aa.vip, I6 aa.first, U4 aa.dip, I6 aa.exp]) 13 (run_rdN (l := [U4 aa.vip, I6 aa.first, U4 aa.dip, I6 aa.exp]) rfl rfl (fun j u hu => by have hq_ := ac.fr.cell (aw j u hu) (by simp); simpa [Nat.add_assoc] using hq_)) (WLb ac (.cells #[U4 0, I6 0, U4 0, I6 0] 50) 7 (fun ax a1 aR ay al => ?_)))
  have az := own_fr hrow ay (by simp)
  refine WLv (c' := #[U4 aa.vip, I6 aa.first, U4 aa.dip, I6 aa.exp]) al 0 50 ax 0 (.agg #[U4 aa.vip, I6 aa.first, U4 aa.dip, I6 aa.exp]) (fun aS aA ae => ?_)
  have aB := own_fr az aA (al.apartM 0 0 rfl rfl)
  refine WLd rfl (QXn (au _ _ (WCs (fun a2 aC => WCg (WLq 1 [(14, .func (.func 121) #[] #[P0 b1 0])] (WLo 50 (P0 ax 0) (.agg #[U4 aa.vip, I6 aa.first, U4 aa.dip, I6 aa.exp]) 15 (run_ld (ae.get 0 rfl) rfl) (WLk (Prune1_ct aa b1 now aS (ae.fr.cell h1 (by simp))) ?_)))))))
  rintro _ a3 ⟨rfl, am⟩
  refine ⟨_, rfl, ?_⟩
  have af := ae.call am
  have an := own_fr aB am (by simp)
  refine WLd rfl (QXn (aC _ _ (WCa 16 (pruneP now aa) rfl (fun ag => ?_) (fun ag => ?_))))
  ·
   refine WCt rfl (WCg (WLq 1 [(17, .slice A5 n5 c5)] (WLo 50 (P0 ax 0) (.agg #[U4 aa.vip, I6 aa.first, U4 aa.dip, I6 aa.exp]) 18 (run_ld (af.get 0 rfl) rfl) (WL.newM af (fun b => .slice (some ⟨b, 0, none⟩) 1 1) (.cells #[U4 aa.vip, I6 aa.first, U4 aa.dip, I6 aa.exp] 50) 19 (fun _ => by kernel_rfl) (fun aO a4 aT aD ao => ?_)))))
   have aE := own_fr an aD (by simp)
   obtain ⟨a5, a6, aF, aG, aU, aH, aI, aJ⟩ := app_run Tryz.prog ao 0 (v := .slice A5 n5 c5) rfl 29 29 50 4 32 n5 1 1 (some ⟨aO, 0, none⟩) rfl aE [U4 aa.vip, I6 aa.first, U4 aa.dip, I6 aa.exp] rfl (srcOk.blk 1 (ao.get 1 rfl)) rfl (by simp only [maxLen]; omega) (by omega)
   have ap := own_snoc (enc := encL) (ys := ((xs.take k).filter (pruneP now))) aa aG
   obtain ⟨aK, aL, rfl, aP⟩ := own_form ap
   refine WLS 20 aF (WLq 1 [(5, .slice aK (n5 + 1) aL)] (WLd rfl (QXb (QXn (ak _ _ (WCg (WLq 1 [(21, I6 (IntKind.i64.wrap ((k : Int) + 1)))] ?_)))))))
   refine WLt (show (I6 (IntKind.i64.wrap ((k : Int) + 1)) : Value) = I6 ((k : Int) + 1) from by rw [wrap_in_i64 ((k : Int) + 1) (by omega) (by omega)]) (WLq 1 [(10, I6 ((k : Int) + 1))] (WLd rfl (QXn ?_)))
   have aM := aH.pick [] [0] rfl rfl
   refine fun a_ ha_ => ah _ _ _ ?_ ⟨k + 1, aK, n5 + 1, aL, rfl, rfl, aM, by rw [take_filter_snoc (pruneP now) ab, if_pos ag]; exact ap, by omega, by rw [take_filter_snoc (pruneP now) ab]; simp [*]⟩ a_ (ha_.weaken (sub_of ⟨rfl, rfl, rfl, rfl, rfl, rfl, rfl, trivial⟩))
   omega
  ·
   refine WCf rfl (WC.skip (QXb (QXn (ak _ _ (WCg (WLq 1 [(21, I6 (IntKind.i64.wrap ((k : Int) + 1)))] (WLt (show (I6 (IntKind.i64.wrap ((k : Int) + 1)) : Value) = I6 ((k : Int) + 1) from by rw [wrap_in_i64 ((k : Int) + 1) (by omega) (by omega)]) (WLq 1 [(10, I6 ((k : Int) + 1))] ?_))))))))
   refine WLd rfl (QXn ?_)
   have aN := af.pick [] [0] rfl rfl
   refine fun a_ ha_ => ah _ _ _ ?_ ⟨k + 1, A5, n5, c5, rfl, rfl, aN, by rw [take_filter_snoc (pruneP now) ab, if_neg (by rw [ag]; decide), List.append_nil]; exact an, by omega, by rw [take_filter_snoc (pruneP now) ab]; simp [*]⟩ a_ (ha_.weaken (sub_of ⟨rfl, rfl, rfl, rfl, rfl, rfl, rfl, trivial⟩))
   omega
 ·
  have aQ : (xs.length : Int) ≤ (k : Int) := by have q_ := of_decide_eq_false ad; omega
  refine WCf rfl (WC.exit (QXe (QXe (QX.block_hit (QXn (hK6 _ _ ?_))))))
  refine WCs (fun a7 aq => WCg (WLz 2 [(4, .slice A5 n5 c5)] (WLd rfl (QXn (aq _ _ (WC.ret ?_))))))
  refine (hret _ _ _ rfl ?_).1
  clear hN hret hret' aq aj ai hK8 hK6 hK4 hK2
  have hk2 : xs.take k = xs := List.take_of_length_le (by omega)
  have ho_ := hrow
  rw [hk2] at ho_ hn5
  subst hn5
  exact ⟨_, rfl, ac.fr, own_base ho_ (ac.geF 0 rfl)⟩

end Go.Proofs.YtfligklljkcbfaaGreatDoor
