/- Contracts of functions of the program, each proved by a walk through its code; conditions stand in the statements. -/
import Derived.Test.YtfligklljkcbfaaDoorStC16
namespace Go.Proofs.YtfligklljkcbfaaDoor
set_option linter.unusedSimpArgs false
set_option linter.unusedVariables false
set_option linter.unusedSectionVars false
open Go Go.RowKit Go.Tw
set_option linter.unusedVariables false
set_option maxRecDepth 20000
def findP (vip port now : Int) (l : Lease) : Bool := decide (l.vip = vip) && livesB l now && decide (l.first ≤ port) && decide (port - l.first < 8)
def pruneP (now : Int) (l : Lease) : Bool := livesB l now
def ofP (dip now : Int) (l : Lease) : Bool := decide (l.dip = dip) && livesB l now
theorem take_filter_snoc (p : Lease → Bool) {xs : List Lease} {k : Nat} {x : Lease} (h : xs[k]? = some x) : (xs.take (k + 1)).filter p = (xs.take k).filter p ++ if p x then [x] else [] := by
  obtain ⟨hk, rfl⟩ := List.getElem?_eq_some_iff.1 h
  rw [List.take_succ_eq_append_getElem hk, List.filter_append]
  by_cases hp : p xs[k] <;> simp [hp]
theorem filter_take_le (p : Lease → Bool) (xs : List Lease) (k : Nat) : ((xs.take k).filter p).length ≤ xs.length := Nat.le_trans (List.length_filter_le _ _) (by simp; omega)
theorem Of1_ct (l : Lease) (b1 b2 : Nat) (dip now : Int) (w : World) (h1 : w.cell? ⟨b1, 0, none⟩ = some (.int .u32 dip)) (h2 : w.cell? ⟨b2, 0, none⟩ = some (.int .i64 now)) : Calls Tryd.prog 85 #[.agg #[.int .u32 l.vip, .int .i64 l.first, .int .u32 l.dip, .int .i64 l.exp], .pointer (some ⟨b1, 0, none⟩), .pointer (some ⟨b2, 0, none⟩)] w fun e w' => e = .returned (.bool (ofP dip now l)) ∧ Fr w w' [] := by
 refine enterD (n := 14) Tryd.func85 rfl rfl (Nat.le_of_ble_eq_true rfl) ?_
 intro Q0 hN hret hret'
 have hC := Cx.start w
 refine WCs (fun K1 hK2 => ?_)
 refine WCg ?_
 refine WL.newM hC (fun b => .pointer (some ⟨b, 0, none⟩)) (.cells #[.int .u32 l.vip, .int .i64 l.first, .int .u32 l.dip, .int .i64 l.exp] 43) 3 (fun _ => by kernel_rfl) (fun g3 w4 hb7 hF5 hC6 => ?_)
 refine WLr 1 [(4, .bool false)] (fun _ => by kernel_rfl) (WLd rfl (QXn (hK2 _ _ ?_)))
 refine WCs (fun K8 hK9 => ?_)
 refine WCg (WLr 1 [(5, .pointer (some ⟨g3, 2, none⟩))] (fun _ => by kernel_rfl) ?_)
 refine WL.load 41 (.pointer (some ⟨g3, 2, none⟩)) (.int .u32 l.dip) 6 (by kernel_rfl) (run_ld (hC6.get 0 rfl) rfl) ?_
 refine WL.load 41 (.pointer (some ⟨b1, 0, none⟩)) (.int .u32 dip) 7 (by kernel_rfl) (run_load1 rfl (hC6.fr.cell (h1) (by simp))) ?_
 refine WLr 2 [(9, .bool (l.dip == dip)), (8, .bool (l.dip == dip))] (fun _ => by kernel_rfl) ?_
 refine WLa 9 (l.dip == dip) rfl (fun t10b => ?_) (fun t10b => ?_)
 ·
  have t10 : l.dip = dip := by simpa using t10b
  refine WL.load 43 (.pointer (some ⟨g3, 0, none⟩)) (.agg #[.int .u32 l.vip, .int .i64 l.first, .int .u32 l.dip, .int .i64 l.exp]) 10 (by kernel_rfl) (run_ld (hC6.get 0 rfl) rfl) ?_
  refine WL.load 3 (.pointer (some ⟨b2, 0, none⟩)) (.int .i64 now) 11 (by kernel_rfl) (run_load1 rfl (hC6.fr.cell (h2) (by simp))) ?_
  refine WLc rfl rfl rfl rfl rfl (by kernel_rfl) (lives_ct l now w4) ?_
  rintro _ w12 ⟨rfl, hF11⟩
  refine ⟨_, rfl, ?_⟩
  have hC13 := hC6.call hF11
  refine WLr 2 [(4, .bool (livesB l now)), (13, .bool (livesB l now))] (fun _ => by kernel_rfl) (WLd rfl (QXn (hK9 _ _ ?_)))
  refine WC.ret ?_
  refine (hret _ _ _ rfl ?_).1
  clear hN hret hret' hK9 hK2
  exact ⟨by simp [shut, ofP, *]; try grind, hC13.fr⟩
 ·
  have t10 : ¬ (l.dip = dip) := by simpa using t10b
  refine WLr 5 [(4, .bool false), (13, .bool false), (12, undef), (11, undef), (10, undef)] (fun _ => by kernel_rfl) (WLd rfl (QXn (hK9 _ _ ?_)))
  refine WC.ret ?_
  refine (hret _ _ _ rfl ?_).1
  clear hN hret hret' hK9 hK2
  exact ⟨by simp [shut, ofP, *]; try grind, hC6.fr⟩

theorem Prune1_ct (l : Lease) (b1 : Nat) (now : Int) (w : World) (h1 : w.cell? ⟨b1, 0, none⟩ = some (.int .i64 now)) : Calls Tryd.prog 84 #[.agg #[.int .u32 l.vip, .int .i64 l.first, .int .u32 l.dip, .int .i64 l.exp], .pointer (some ⟨b1, 0, none⟩)] w fun e w' => e = .returned (.bool (pruneP now l)) ∧ Fr w w' [] := by
 refine enterD (n := 7) Tryd.func84 rfl rfl (Nat.le_of_ble_eq_true rfl) ?_
 intro Q0 hN hret hret'
 have hC := Cx.start w
 refine WCs (fun K1 hK2 => ?_)
 refine WCg ?_
 refine WL.newM hC (fun b => .pointer (some ⟨b, 0, none⟩)) (.cells #[.int .u32 l.vip, .int .i64 l.first, .int .u32 l.dip, .int .i64 l.exp] 43) 2 (fun _ => by kernel_rfl) (fun g3 w4 hb7 hF5 hC6 => ?_)
 refine WLr 1 [(3, .bool false)] (fun _ => by kernel_rfl) (WLd rfl (QXn (hK2 _ _ ?_)))
 refine WCs (fun K8 hK9 => ?_)
 refine WCg ?_
 refine WL.load 43 (.pointer (some ⟨g3, 0, none⟩)) (.agg #[.int .u32 l.vip, .int .i64 l.first, .int .u32 l.dip, .int .i64 l.exp]) 4 (by kernel_rfl) (run_ld (hC6.get 0 rfl) rfl) ?_
 refine WL.load 3 (.pointer (some ⟨b1, 0, none⟩)) (.int .i64 now) 5 (by kernel_rfl) (run_load1 rfl (hC6.fr.cell (h1) (by simp))) ?_
 refine WLc rfl rfl rfl rfl rfl (by kernel_rfl) (lives_ct l now w4) ?_
 rintro _ w11 ⟨rfl, hF10⟩
 refine ⟨_, rfl, ?_⟩
 have hC12 := hC6.call hF10
 refine WLr 1 [(3, .bool (livesB l now))] (fun _ => by kernel_rfl) (WLd rfl (QXn (hK9 _ _ ?_)))
 refine WC.ret ?_
 refine (hret _ _ _ rfl ?_).1
 clear hN hret hret' hK9 hK2
 exact ⟨by simp [shut, pruneP, *]; try grind, hC12.fr⟩

theorem picked_Of (A : Option Addr) (c : Nat) (xs : List Lease) (b1 b2 : Nat) (dip now : Int) (w : World) (hr : Rd w 4 encL A xs) (hwf : ∀ l ∈ xs, okL l) (hm : xs.length < 2 ^ 40) (h1 : w.cell? ⟨b1, 0, none⟩ = some (.int .u32 dip)) (h2 : w.cell? ⟨b2, 0, none⟩ = some (.int .i64 now)) : Calls Tryd.prog 26 #[.slice A xs.length c, .func (.func 85) #[] #[.pointer (some ⟨b1, 0, none⟩), .pointer (some ⟨b2, 0, none⟩)]] w fun e w' => ∃ v, e = .returned v ∧ Fr w w' [] ∧ w'.ownsRow w.heap.size 43 4 v (xs.filter (ofP dip now)).length ((xs.filter (ofP dip now)).flatMap encL) := by
 refine enterD (n := 23) Tryd.func26 rfl rfl (Nat.le_of_ble_eq_true rfl) ?_
 intro Q0 hN hret hret'
 have hC := Cx.start w
 refine WCs (fun K1 hK2 => ?_)
 refine WCg (WLr 1 [(4, .slice none 0 0)] (fun _ => by kernel_rfl) (WLd rfl (QXn (hK2 _ _ ?_))))
 refine WCs (fun K3 hK4 => ?_)
 refine WCg (WLr 1 [(5, .slice none 0 0)] (fun _ => by kernel_rfl) (WLd rfl (QXn (hK4 _ _ ?_))))
 refine WCs (fun K5 hK6 => ?_)
 refine WCs (fun K7 hK8 => ?_)
 refine WCg (WLr 3 [(10, .int .i64 0), (9, .int .i64 (xs.length : Int)), (8, .slice A xs.length c)] (fun _ => by kernel_rfl) (WLd rfl (QXn (hK8 _ _ ?_))))
 refine WC.block ?_
 have hC9 := hC.addNil
 refine WC.loop (fun m_ E_ w_ => ∃ (k : Nat) (A5 : Option Addr) (n5 c5 : Nat), m_ = xs.length - k ∧ E_ = [(0, .slice A xs.length c), (1, .func (.func 85) #[] #[.pointer (some ⟨b1, 0, none⟩), .pointer (some ⟨b2, 0, none⟩)]), (4, .slice none 0 0), (5, .slice A5 n5 c5), (8, .slice A xs.length c), (9, .int .i64 (xs.length : Int)), (10, .int .i64 (k : Int))] ∧ Cx w [] w_ [] [blk (.slice A5 n5 c5)] ∧ World.ownsRow w_ 0 43 4 (.slice A5 n5 c5) n5 (((xs.take k).filter (ofP dip now)).flatMap encL) ∧ (k ≤ xs.length ∧ n5 = ((xs.take k).filter (ofP dip now)).length)) ⟨_, _, ⟨0, none, 0, 0, rfl, rfl, hC9, own_nil _ _ _ _, Nat.zero_le _, rfl⟩, sub_of ⟨rfl, rfl, rfl, rfl, rfl, rfl, rfl, trivial⟩⟩ (fun m13 E_ w14 K10 hK11 hI12 => ?_)
 obtain ⟨k, A5, n5, c5, rfl, rfl, hC15, hrow, hk, hn5⟩ := hI12
 have hfl := filter_take_le (ofP dip now) xs k
 refine WCs (fun K16 hK17 => ?_)
 refine WCg (WLr 1 [(11, .bool (decide ((k : Int) < (xs.length : Int))))] (fun _ => by kernel_rfl) (WLd rfl (QXn (hK17 _ _ ?_))))
 refine WCs (fun K18 hK19 => ?_)
 refine WCa 11 (decide ((k : Int) < (xs.length : Int))) rfl (fun t20b => ?_) (fun t20b => ?_)
 ·
  have t20 : (k : Int) < (xs.length : Int) := by have q_ := of_decide_eq_true t20b; omega
  refine WCt rfl ?_
  refine WC.skip ?_
  refine QXn (hK19 _ _ ?_)
  refine WCs (fun K21 hK22 => ?_)
  refine WC.block ?_
  refine WCs (fun K23 hK24 => ?_)
  refine WCg ?_
  obtain ⟨e25, he26⟩ := get_some (xs := xs) (i := k) (by omega)
  obtain ⟨b27, o29, hA28, hc30⟩ := hr.at_ _ _ he26
  have hok_e25 := hwf _ (List.mem_of_getElem? he26)
  refine WLi A xs.length c 12 .i64 (k : Int) b27 o29 k 4 (by kernel_rfl) hA28 (by omega) (by omega) (o29 + k * 4) (by first | (simp; done) | omega) ?_
  refine WL.load 43 (.pointer (some ⟨b27, o29 + k * 4, none⟩)) (.agg #[.int .u32 e25.vip, .int .i64 e25.first, .int .u32 e25.dip, .int .i64 e25.exp]) 13 (by kernel_rfl) (run_rdN (l := [.int .u32 e25.vip, .int .i64 e25.first, .int .u32 e25.dip, .int .i64 e25.exp]) rfl rfl (fun j u hu => by have hq_ := hC15.fr.cell (hc30 j u hu) (by simp); simpa [Nat.add_assoc] using hq_)) ?_
  refine WL.newM hC15 (fun b => .pointer (some ⟨b, 0, none⟩)) (.cells #[.int .u32 0, .int .i64 0, .int .u32 0, .int .i64 0] 43) 7 (fun _ => by kernel_rfl) (fun g31 w32 hb35 hF33 hC34 => ?_)
  have ho36 := own_fr hrow hF33 (by simp)
  refine WLs (c' := #[.int .u32 e25.vip, .int .i64 e25.first, .int .u32 e25.dip, .int .i64 e25.exp]) hC34 0 43 g31 0 (.agg #[.int .u32 e25.vip, .int .i64 e25.first, .int .u32 e25.dip, .int .i64 e25.exp]) (by kernel_rfl) rfl (by kernel_rfl) (fun w37 hF39 hC40 => ?_)
  have ho41 := own_fr ho36 hF39 (hC34.apartM 0 0 rfl rfl)
  refine WLd rfl (QXn (hK24 _ _ ?_))
  refine WCs (fun K42 hK43 => ?_)
  refine WCg (WLr 1 [(14, .func (.func 85) #[] #[.pointer (some ⟨b1, 0, none⟩), .pointer (some ⟨b2, 0, none⟩)])] (fun _ => by kernel_rfl) ?_)
  refine WL.load 43 (.pointer (some ⟨g31, 0, none⟩)) (.agg #[.int .u32 e25.vip, .int .i64 e25.first, .int .u32 e25.dip, .int .i64 e25.exp]) 15 (by kernel_rfl) (run_ld (hC40.get 0 rfl) rfl) ?_
  refine WLc rfl rfl rfl rfl rfl (by kernel_rfl) (Of1_ct e25 b1 b2 dip now w37 (hC40.fr.cell h1 (by simp)) (hC40.fr.cell h2 (by simp))) ?_
  rintro _ w45 ⟨rfl, hF44⟩
  refine ⟨_, rfl, ?_⟩
  have hC46 := hC40.call hF44
  have ho47 := own_fr ho41 hF44 (by simp)
  refine WLd rfl (QXn (hK43 _ _ ?_))
  refine WCa 16 (ofP dip now e25) rfl (fun t48b => ?_) (fun t48b => ?_)
  ·
   refine WCt rfl ?_
   refine WCg (WLr 1 [(17, .slice A5 n5 c5)] (fun _ => by kernel_rfl) ?_)
   refine WL.load 43 (.pointer (some ⟨g31, 0, none⟩)) (.agg #[.int .u32 e25.vip, .int .i64 e25.first, .int .u32 e25.dip, .int .i64 e25.exp]) 18 (by kernel_rfl) (run_ld (hC46.get 0 rfl) rfl) ?_
   refine WL.newM hC46 (fun b => .slice (some ⟨b, 0, none⟩) 1 1) (.cells #[.int .u32 e25.vip, .int .i64 e25.first, .int .u32 e25.dip, .int .i64 e25.exp] 43) 19 (fun _ => by kernel_rfl) (fun g49 w50 hb53 hF51 hC52 => ?_)
   have ho54 := own_fr ho47 hF51 (by simp)
   obtain ⟨v55, w56, hr57, ho58, hF59, hC60, hnil61, hsub62⟩ := app_run Tryd.prog hC52 0 (v := .slice A5 n5 c5) rfl 29 29 43 4 32 n5 1 1 (some ⟨g49, 0, none⟩) rfl ho54 [.int .u32 e25.vip, .int .i64 e25.first, .int .u32 e25.dip, .int .i64 e25.exp] rfl (srcOk.blk 1 (hC52.get 1 rfl)) rfl (by simp only [maxLen]; omega) (by omega)
   have ho66 := own_snoc (enc := encL) (ys := ((xs.take k).filter (ofP dip now))) e25 ho58
   obtain ⟨A63, c64, rfl, hle65⟩ := own_form ho66
   refine WL.sem (Builtin.append_ #[29, 29] 29 #[.slice A5 n5 c5, .slice (some ⟨g49, 0, none⟩) 1 1]) 20 (.slice A63 (n5 + 1) c64) (by kernel_rfl) hr57 ?_
   refine WLr 1 [(5, .slice A63 (n5 + 1) c64)] (fun _ => by kernel_rfl) ?_
   refine WLd rfl ?_
   refine QXb ?_
   refine QXn (hK22 _ _ ?_)
   refine WCg (WLr 1 [(21, .int .i64 (IntKind.i64.wrap ((k : Int) + 1)))] (fun _ => by kernel_rfl) ?_)
   refine WLt (show (.int .i64 (IntKind.i64.wrap ((k : Int) + 1)) : Value) = .int .i64 ((k : Int) + 1) from by rw [wrap_in_i64 ((k : Int) + 1) (by omega) (by omega)]) ?_
   refine WLr 1 [(10, .int .i64 ((k : Int) + 1))] (fun _ => by kernel_rfl) ?_
   refine WLd rfl ?_
   refine QXn ?_
   have hC67 := hC60.pick [] [0] rfl rfl
   refine fun a_ ha_ => hK11 _ _ _ ?_ ⟨k + 1, A63, n5 + 1, c64, rfl, rfl, hC67, by rw [take_filter_snoc (ofP dip now) he26, if_pos t48b]; exact ho66, by omega, by rw [take_filter_snoc (ofP dip now) he26]; simp [*]⟩ a_ (ha_.weaken (sub_of ⟨rfl, rfl, rfl, rfl, rfl, rfl, rfl, trivial⟩))
   omega
  ·
   refine WCf rfl (WC.skip ?_)
   refine QXb ?_
   refine QXn (hK22 _ _ ?_)
   refine WCg (WLr 1 [(21, .int .i64 (IntKind.i64.wrap ((k : Int) + 1)))] (fun _ => by kernel_rfl) ?_)
   refine WLt (show (.int .i64 (IntKind.i64.wrap ((k : Int) + 1)) : Value) = .int .i64 ((k : Int) + 1) from by rw [wrap_in_i64 ((k : Int) + 1) (by omega) (by omega)]) ?_
   refine WLr 1 [(10, .int .i64 ((k : Int) + 1))] (fun _ => by kernel_rfl) ?_
   refine WLd rfl ?_
   refine QXn ?_
   have hC68 := hC46.pick [] [0] rfl rfl
   refine fun a_ ha_ => hK11 _ _ _ ?_ ⟨k + 1, A5, n5, c5, rfl, rfl, hC68, by rw [take_filter_snoc (ofP dip now) he26, if_neg (by rw [t48b]; decide), List.append_nil]; exact ho47, by omega, by rw [take_filter_snoc (ofP dip now) he26]; simp [*]⟩ a_ (ha_.weaken (sub_of ⟨rfl, rfl, rfl, rfl, rfl, rfl, rfl, trivial⟩))
   omega
 ·
  have t20 : (xs.length : Int) ≤ (k : Int) := by have q_ := of_decide_eq_false t20b; omega
  refine WCf rfl ?_
  refine WC.exit ?_
  refine QXe ?_
  refine QXe ?_
  refine QX.block_hit ?_
  refine QXn (hK6 _ _ ?_)
  refine WCs (fun K69 hK70 => ?_)
  refine WCg (WLr 2 [(4, .slice A5 n5 c5), (22, .slice A5 n5 c5)] (fun _ => by kernel_rfl) (WLd rfl (QXn (hK70 _ _ ?_))))
  refine WC.ret ?_
  refine (hret _ _ _ rfl ?_).1
  clear hN hret hret' hK70 hK19 hK17 hK8 hK6 hK4 hK2
  have hk2 : xs.take k = xs := List.take_of_length_le (by omega)
  have ho_ := hrow
  rw [hk2] at ho_ hn5
  subst hn5
  exact ⟨_, rfl, hC15.fr, own_base ho_ (hC15.geF 0 rfl)⟩

theorem picked_Prune (A : Option Addr) (c : Nat) (xs : List Lease) (b1 : Nat) (now : Int) (w : World) (hr : Rd w 4 encL A xs) (hwf : ∀ l ∈ xs, okL l) (hm : xs.length < 2 ^ 40) (h1 : w.cell? ⟨b1, 0, none⟩ = some (.int .i64 now)) : Calls Tryd.prog 26 #[.slice A xs.length c, .func (.func 84) #[] #[.pointer (some ⟨b1, 0, none⟩)]] w fun e w' => ∃ v, e = .returned v ∧ Fr w w' [] ∧ w'.ownsRow w.heap.size 43 4 v (xs.filter (pruneP now)).length ((xs.filter (pruneP now)).flatMap encL) := by
 refine enterD (n := 23) Tryd.func26 rfl rfl (Nat.le_of_ble_eq_true rfl) ?_
 intro Q0 hN hret hret'
 have hC := Cx.start w
 refine WCs (fun K1 hK2 => ?_)
 refine WCg (WLr 1 [(4, .slice none 0 0)] (fun _ => by kernel_rfl) (WLd rfl (QXn (hK2 _ _ ?_))))
 refine WCs (fun K3 hK4 => ?_)
 refine WCg (WLr 1 [(5, .slice none 0 0)] (fun _ => by kernel_rfl) (WLd rfl (QXn (hK4 _ _ ?_))))
 refine WCs (fun K5 hK6 => ?_)
 refine WCs (fun K7 hK8 => ?_)
 refine WCg (WLr 3 [(10, .int .i64 0), (9, .int .i64 (xs.length : Int)), (8, .slice A xs.length c)] (fun _ => by kernel_rfl) (WLd rfl (QXn (hK8 _ _ ?_))))
 refine WC.block ?_
 have hC9 := hC.addNil
 refine WC.loop (fun m_ E_ w_ => ∃ (k : Nat) (A5 : Option Addr) (n5 c5 : Nat), m_ = xs.length - k ∧ E_ = [(0, .slice A xs.length c), (1, .func (.func 84) #[] #[.pointer (some ⟨b1, 0, none⟩)]), (4, .slice none 0 0), (5, .slice A5 n5 c5), (8, .slice A xs.length c), (9, .int .i64 (xs.length : Int)), (10, .int .i64 (k : Int))] ∧ Cx w [] w_ [] [blk (.slice A5 n5 c5)] ∧ World.ownsRow w_ 0 43 4 (.slice A5 n5 c5) n5 (((xs.take k).filter (pruneP now)).flatMap encL) ∧ (k ≤ xs.length ∧ n5 = ((xs.take k).filter (pruneP now)).length)) ⟨_, _, ⟨0, none, 0, 0, rfl, rfl, hC9, own_nil _ _ _ _, Nat.zero_le _, rfl⟩, sub_of ⟨rfl, rfl, rfl, rfl, rfl, rfl, rfl, trivial⟩⟩ (fun m13 E_ w14 K10 hK11 hI12 => ?_)
 obtain ⟨k, A5, n5, c5, rfl, rfl, hC15, hrow, hk, hn5⟩ := hI12
 have hfl := filter_take_le (pruneP now) xs k
 refine WCs (fun K16 hK17 => ?_)
 refine WCg (WLr 1 [(11, .bool (decide ((k : Int) < (xs.length : Int))))] (fun _ => by kernel_rfl) (WLd rfl (QXn (hK17 _ _ ?_))))
 refine WCs (fun K18 hK19 => ?_)
 refine WCa 11 (decide ((k : Int) < (xs.length : Int))) rfl (fun t20b => ?_) (fun t20b => ?_)
 ·
  have t20 : (k : Int) < (xs.length : Int) := by have q_ := of_decide_eq_true t20b; omega
  refine WCt rfl ?_
  refine WC.skip ?_
  refine QXn (hK19 _ _ ?_)
  refine WCs (fun K21 hK22 => ?_)
  refine WC.block ?_
  refine WCs (fun K23 hK24 => ?_)
  refine WCg ?_
  obtain ⟨e25, he26⟩ := get_some (xs := xs) (i := k) (by omega)
  obtain ⟨b27, o29, hA28, hc30⟩ := hr.at_ _ _ he26
  have hok_e25 := hwf _ (List.mem_of_getElem? he26)
  refine WLi A xs.length c 12 .i64 (k : Int) b27 o29 k 4 (by kernel_rfl) hA28 (by omega) (by omega) (o29 + k * 4) (by first | (simp; done) | omega) ?_
  refine WL.load 43 (.pointer (some ⟨b27, o29 + k * 4, none⟩)) (.agg #[.int .u32 e25.vip, .int .i64 e25.first, .int .u32 e25.dip, .int .i64 e25.exp]) 13 (by kernel_rfl) (run_rdN (l := [.int .u32 e25.vip, .int .i64 e25.first, .int .u32 e25.dip, .int .i64 e25.exp]) rfl rfl (fun j u hu => by have hq_ := hC15.fr.cell (hc30 j u hu) (by simp); simpa [Nat.add_assoc] using hq_)) ?_
  refine WL.newM hC15 (fun b => .pointer (some ⟨b, 0, none⟩)) (.cells #[.int .u32 0, .int .i64 0, .int .u32 0, .int .i64 0] 43) 7 (fun _ => by kernel_rfl) (fun g31 w32 hb35 hF33 hC34 => ?_)
  have ho36 := own_fr hrow hF33 (by simp)
  refine WLs (c' := #[.int .u32 e25.vip, .int .i64 e25.first, .int .u32 e25.dip, .int .i64 e25.exp]) hC34 0 43 g31 0 (.agg #[.int .u32 e25.vip, .int .i64 e25.first, .int .u32 e25.dip, .int .i64 e25.exp]) (by kernel_rfl) rfl (by kernel_rfl) (fun w37 hF39 hC40 => ?_)
  have ho41 := own_fr ho36 hF39 (hC34.apartM 0 0 rfl rfl)
  refine WLd rfl (QXn (hK24 _ _ ?_))
  refine WCs (fun K42 hK43 => ?_)
  refine WCg (WLr 1 [(14, .func (.func 84) #[] #[.pointer (some ⟨b1, 0, none⟩)])] (fun _ => by kernel_rfl) ?_)
  refine WL.load 43 (.pointer (some ⟨g31, 0, none⟩)) (.agg #[.int .u32 e25.vip, .int .i64 e25.first, .int .u32 e25.dip, .int .i64 e25.exp]) 15 (by kernel_rfl) (run_ld (hC40.get 0 rfl) rfl) ?_
  refine WLc rfl rfl rfl rfl rfl (by kernel_rfl) (Prune1_ct e25 b1 now w37 (hC40.fr.cell h1 (by simp))) ?_
  rintro _ w45 ⟨rfl, hF44⟩
  refine ⟨_, rfl, ?_⟩
  have hC46 := hC40.call hF44
  have ho47 := own_fr ho41 hF44 (by simp)
  refine WLd rfl (QXn (hK43 _ _ ?_))
  refine WCa 16 (pruneP now e25) rfl (fun t48b => ?_) (fun t48b => ?_)
  ·
   refine WCt rfl ?_
   refine WCg (WLr 1 [(17, .slice A5 n5 c5)] (fun _ => by kernel_rfl) ?_)
   refine WL.load 43 (.pointer (some ⟨g31, 0, none⟩)) (.agg #[.int .u32 e25.vip, .int .i64 e25.first, .int .u32 e25.dip, .int .i64 e25.exp]) 18 (by kernel_rfl) (run_ld (hC46.get 0 rfl) rfl) ?_
   refine WL.newM hC46 (fun b => .slice (some ⟨b, 0, none⟩) 1 1) (.cells #[.int .u32 e25.vip, .int .i64 e25.first, .int .u32 e25.dip, .int .i64 e25.exp] 43) 19 (fun _ => by kernel_rfl) (fun g49 w50 hb53 hF51 hC52 => ?_)
   have ho54 := own_fr ho47 hF51 (by simp)
   obtain ⟨v55, w56, hr57, ho58, hF59, hC60, hnil61, hsub62⟩ := app_run Tryd.prog hC52 0 (v := .slice A5 n5 c5) rfl 29 29 43 4 32 n5 1 1 (some ⟨g49, 0, none⟩) rfl ho54 [.int .u32 e25.vip, .int .i64 e25.first, .int .u32 e25.dip, .int .i64 e25.exp] rfl (srcOk.blk 1 (hC52.get 1 rfl)) rfl (by simp only [maxLen]; omega) (by omega)
   have ho66 := own_snoc (enc := encL) (ys := ((xs.take k).filter (pruneP now))) e25 ho58
   obtain ⟨A63, c64, rfl, hle65⟩ := own_form ho66
   refine WL.sem (Builtin.append_ #[29, 29] 29 #[.slice A5 n5 c5, .slice (some ⟨g49, 0, none⟩) 1 1]) 20 (.slice A63 (n5 + 1) c64) (by kernel_rfl) hr57 ?_
   refine WLr 1 [(5, .slice A63 (n5 + 1) c64)] (fun _ => by kernel_rfl) ?_
   refine WLd rfl ?_
   refine QXb ?_
   refine QXn (hK22 _ _ ?_)
   refine WCg (WLr 1 [(21, .int .i64 (IntKind.i64.wrap ((k : Int) + 1)))] (fun _ => by kernel_rfl) ?_)
   refine WLt (show (.int .i64 (IntKind.i64.wrap ((k : Int) + 1)) : Value) = .int .i64 ((k : Int) + 1) from by rw [wrap_in_i64 ((k : Int) + 1) (by omega) (by omega)]) ?_
   refine WLr 1 [(10, .int .i64 ((k : Int) + 1))] (fun _ => by kernel_rfl) ?_
   refine WLd rfl ?_
   refine QXn ?_
   have hC67 := hC60.pick [] [0] rfl rfl
   refine fun a_ ha_ => hK11 _ _ _ ?_ ⟨k + 1, A63, n5 + 1, c64, rfl, rfl, hC67, by rw [take_filter_snoc (pruneP now) he26, if_pos t48b]; exact ho66, by omega, by rw [take_filter_snoc (pruneP now) he26]; simp [*]⟩ a_ (ha_.weaken (sub_of ⟨rfl, rfl, rfl, rfl, rfl, rfl, rfl, trivial⟩))
   omega
  ·
   refine WCf rfl (WC.skip ?_)
   refine QXb ?_
   refine QXn (hK22 _ _ ?_)
   refine WCg (WLr 1 [(21, .int .i64 (IntKind.i64.wrap ((k : Int) + 1)))] (fun _ => by kernel_rfl) ?_)
   refine WLt (show (.int .i64 (IntKind.i64.wrap ((k : Int) + 1)) : Value) = .int .i64 ((k : Int) + 1) from by rw [wrap_in_i64 ((k : Int) + 1) (by omega) (by omega)]) ?_
   refine WLr 1 [(10, .int .i64 ((k : Int) + 1))] (fun _ => by kernel_rfl) ?_
   refine WLd rfl ?_
   refine QXn ?_
   have hC68 := hC46.pick [] [0] rfl rfl
   refine fun a_ ha_ => hK11 _ _ _ ?_ ⟨k + 1, A5, n5, c5, rfl, rfl, hC68, by rw [take_filter_snoc (pruneP now) he26, if_neg (by rw [t48b]; decide), List.append_nil]; exact ho47, by omega, by rw [take_filter_snoc (pruneP now) he26]; simp [*]⟩ a_ (ha_.weaken (sub_of ⟨rfl, rfl, rfl, rfl, rfl, rfl, rfl, trivial⟩))
   omega
 ·
  have t20 : (xs.length : Int) ≤ (k : Int) := by have q_ := of_decide_eq_false t20b; omega
  refine WCf rfl ?_
  refine WC.exit ?_
  refine QXe ?_
  refine QXe ?_
  refine QX.block_hit ?_
  refine QXn (hK6 _ _ ?_)
  refine WCs (fun K69 hK70 => ?_)
  refine WCg (WLr 2 [(4, .slice A5 n5 c5), (22, .slice A5 n5 c5)] (fun _ => by kernel_rfl) (WLd rfl (QXn (hK70 _ _ ?_))))
  refine WC.ret ?_
  refine (hret _ _ _ rfl ?_).1
  clear hN hret hret' hK70 hK19 hK17 hK8 hK6 hK4 hK2
  have hk2 : xs.take k = xs := List.take_of_length_le (by omega)
  have ho_ := hrow
  rw [hk2] at ho_ hn5
  subst hn5
  exact ⟨_, rfl, hC15.fr, own_base ho_ (hC15.geF 0 rfl)⟩

end Go.Proofs.YtfligklljkcbfaaDoor
