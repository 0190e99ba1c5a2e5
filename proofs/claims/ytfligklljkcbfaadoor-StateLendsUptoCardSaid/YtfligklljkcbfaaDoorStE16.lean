/- Contracts of functions of the program, each proved by a walk through its code; conditions stand in the statements. -/
import Derived.Test.YtfligklljkcbfaaDoorStD16
namespace Go.Proofs.YtfligklljkcbfaaDoor
set_option linter.unusedSimpArgs false
set_option linter.unusedVariables false
set_option linter.unusedSectionVars false
open Go Go.RowKit Go.Tw
set_option linter.unusedVariables false
set_option maxRecDepth 20000
def headL (ys : List Lease) : Lease := (ys[0]?).getD ⟨0, 0, 0, 0⟩
def hasL (ys : List Lease) : Bool := (ys[0]?).isSome
theorem headL_some {ys : List Lease} {x : Lease} (h : ys[0]? = some x) : headL ys = x ∧ hasL ys = true := by simp [headL, hasL, h]
theorem headL_none {ys : List Lease} (h : ys.length = 0) : headL ys = ⟨0, 0, 0, 0⟩ ∧ hasL ys = false := by
  have : ys[0]? = none := List.getElem?_eq_none (by omega)
  simp [headL, hasL, this]
theorem Of_ct (A : Option Addr) (c : Nat) (xs : List Lease) (dip now : Int) (w : World) (hr : Rd w 4 encL A xs) (hwf : ∀ l ∈ xs, okL l) (hm : xs.length < 2 ^ 40) : Calls Tryd.prog 66 #[.slice A xs.length c, .int .u32 dip, .int .i64 now] w fun e w' => ∃ v, e = .returned v ∧ Fr w w' [] ∧ w'.ownsRow w.heap.size 43 4 v (xs.filter (ofP dip now)).length ((xs.filter (ofP dip now)).flatMap encL) := by
 refine enterD (n := 10) Tryd.func66 rfl rfl (Nat.le_of_ble_eq_true rfl) ?_
 intro Q0 hN hret hret'
 have hC := Cx.start w
 refine WCs (fun K1 hK2 => ?_)
 refine WCg ?_
 refine WL.newM hC (fun b => .pointer (some ⟨b, 0, none⟩)) (.cells #[.int .u32 dip] 41) 4 (fun _ => by kernel_rfl) (fun g3 w4 hb7 hF5 hC6 => ?_)
 refine WL.newM hC6 (fun b => .pointer (some ⟨b, 0, none⟩)) (.cells #[.int .i64 now] 3) 5 (fun _ => by kernel_rfl) (fun g8 w9 hb12 hF10 hC11 => ?_)
 refine WLr 1 [(6, .slice none 0 0)] (fun _ => by kernel_rfl) (WLd rfl (QXn (hK2 _ _ ?_)))
 refine WCs (fun K13 hK14 => ?_)
 refine WCg (WLr 2 [(8, .func (.func 85) #[] #[.pointer (some ⟨g3, 0, none⟩), .pointer (some ⟨g8, 0, none⟩)]), (7, .slice A xs.length c)] (fun _ => by kernel_rfl) ?_)
 refine WLc rfl rfl rfl rfl rfl (by kernel_rfl) (picked_Of A c xs g3 g8 dip now w9 (Rd.fr hr hC11.fr) hwf (by first | omega | simp) (by rw [cell_blk (hC11.get 0 rfl)]; rfl) (by rw [cell_blk (hC11.get 1 rfl)]; rfl)) ?_
 rintro _ w17 ⟨v_, rfl, hF16, ho15⟩
 have hC18 := hC11.callN hF16 (own_ge ho15) (own_lt ho15)
 obtain ⟨A19, c20, rfl, hle21⟩ := own_form ho15
 have ho23 := own_base (b' := 0) ho15 (fun _ _ => Nat.zero_le _)
 refine ⟨_, rfl, ?_⟩
 refine WLr 1 [(6, .slice A19 ((xs.filter (ofP dip now)).length) c20)] (fun _ => by kernel_rfl) (WLd rfl (QXn (hK14 _ _ ?_)))
 refine WC.ret ?_
 refine (hret _ _ _ rfl ?_).1
 exact ⟨_, rfl, hC18.fr, own_base ho23 (hC18.geF 0 rfl)⟩

theorem Prune_ct (A : Option Addr) (c : Nat) (xs : List Lease) (now : Int) (w : World) (hr : Rd w 4 encL A xs) (hwf : ∀ l ∈ xs, okL l) (hm : xs.length < 2 ^ 40) : Calls Tryd.prog 65 #[.slice A xs.length c, .int .i64 now] w fun e w' => ∃ v, e = .returned v ∧ Fr w w' [] ∧ w'.ownsRow w.heap.size 43 4 v (xs.filter (pruneP now)).length ((xs.filter (pruneP now)).flatMap encL) := by
 refine enterD (n := 8) Tryd.func65 rfl rfl (Nat.le_of_ble_eq_true rfl) ?_
 intro Q0 hN hret hret'
 have hC := Cx.start w
 refine WCs (fun K1 hK2 => ?_)
 refine WCg ?_
 refine WL.newM hC (fun b => .pointer (some ⟨b, 0, none⟩)) (.cells #[.int .i64 now] 3) 3 (fun _ => by kernel_rfl) (fun g3 w4 hb7 hF5 hC6 => ?_)
 refine WLr 1 [(4, .slice none 0 0)] (fun _ => by kernel_rfl) (WLd rfl (QXn (hK2 _ _ ?_)))
 refine WCs (fun K8 hK9 => ?_)
 refine WCg (WLr 2 [(6, .func (.func 84) #[] #[.pointer (some ⟨g3, 0, none⟩)]), (5, .slice A xs.length c)] (fun _ => by kernel_rfl) ?_)
 refine WLc rfl rfl rfl rfl rfl (by kernel_rfl) (picked_Prune A c xs g3 now w4 (Rd.fr hr hC6.fr) hwf (by first | omega | simp) (by rw [cell_blk (hC6.get 0 rfl)]; rfl)) ?_
 rintro _ w12 ⟨v_, rfl, hF11, ho10⟩
 have hC13 := hC6.callN hF11 (own_ge ho10) (own_lt ho10)
 obtain ⟨A14, c15, rfl, hle16⟩ := own_form ho10
 have ho18 := own_base (b' := 0) ho10 (fun _ _ => Nat.zero_le _)
 refine ⟨_, rfl, ?_⟩
 refine WLr 1 [(4, .slice A14 ((xs.filter (pruneP now)).length) c15)] (fun _ => by kernel_rfl) (WLd rfl (QXn (hK9 _ _ ?_)))
 refine WC.ret ?_
 refine (hret _ _ _ rfl ?_).1
 exact ⟨_, rfl, hC13.fr, own_base ho18 (hC13.geF 0 rfl)⟩

theorem Find_ct (A : Option Addr) (c : Nat) (xs : List Lease) (vip port now : Int) (w : World) (hr : Rd w 4 encL A xs) (hwf : ∀ l ∈ xs, okL l) (hm : xs.length < 2 ^ 40) (hp : -9223372036854775808 ≤ port ∧ port ≤ 9223372036854775807) : Calls Tryd.prog 12 #[.slice A xs.length c, .int .u32 vip, .int .i64 port, .int .i64 now] w fun e w' => e = .returned (.tuple #[.agg #[.int .u32 ((headL (xs.filter (findP vip port now))).vip), .int .i64 ((headL (xs.filter (findP vip port now))).first), .int .u32 ((headL (xs.filter (findP vip port now))).dip), .int .i64 ((headL (xs.filter (findP vip port now))).exp)], .bool (hasL (xs.filter (findP vip port now)))]) ∧ Fr w w' [] := by
 refine enterD (n := 21) Tryd.func12 rfl rfl (Nat.le_of_ble_eq_true rfl) ?_
 intro Q0 hN hret hret'
 have hC := Cx.start w
 refine WCs (fun K1 hK2 => ?_)
 refine WCg ?_
 refine WL.newM hC (fun b => .pointer (some ⟨b, 0, none⟩)) (.cells #[.int .u32 vip] 41) 5 (fun _ => by kernel_rfl) (fun g3 w4 hb7 hF5 hC6 => ?_)
 refine WL.newM hC6 (fun b => .pointer (some ⟨b, 0, none⟩)) (.cells #[.int .i64 port] 3) 6 (fun _ => by kernel_rfl) (fun g8 w9 hb12 hF10 hC11 => ?_)
 refine WL.newM hC11 (fun b => .pointer (some ⟨b, 0, none⟩)) (.cells #[.int .i64 now] 3) 7 (fun _ => by kernel_rfl) (fun g13 w14 hb17 hF15 hC16 => ?_)
 refine WL.newM hC16 (fun b => .pointer (some ⟨b, 0, none⟩)) (.cells #[.int .u32 0, .int .i64 0, .int .u32 0, .int .i64 0] 43) 8 (fun _ => by kernel_rfl) (fun g18 w19 hb22 hF20 hC21 => ?_)
 refine WLr 1 [(9, .bool false)] (fun _ => by kernel_rfl) (WLd rfl (QXn (hK2 _ _ ?_)))
 refine WCs (fun K23 hK24 => ?_)
 refine WCg (WLr 2 [(12, .func (.func 27) #[] #[.pointer (some ⟨g3, 0, none⟩), .pointer (some ⟨g13, 0, none⟩), .pointer (some ⟨g8, 0, none⟩)]), (11, .slice A xs.length c)] (fun _ => by kernel_rfl) ?_)
 refine WLc rfl rfl rfl rfl rfl (by kernel_rfl) (picked_Find A c xs g3 g13 g8 vip now port w19 (Rd.fr hr hC21.fr) hwf (by first | omega | simp) (by rw [cell_blk (hC21.get 0 rfl)]; rfl) (by rw [cell_blk (hC21.get 2 rfl)]; rfl) (by rw [cell_blk (hC21.get 1 rfl)]; rfl) hp) ?_
 rintro _ w27 ⟨v_, rfl, hF26, ho25⟩
 have hC28 := hC21.callN hF26 (own_ge ho25) (own_lt ho25)
 obtain ⟨A29, c30, rfl, hle31⟩ := own_form ho25
 have ho33 := own_base (b' := 0) ho25 (fun _ _ => Nat.zero_le _)
 refine ⟨_, rfl, ?_⟩
 refine WLr 1 [(10, .slice A29 ((xs.filter (findP vip port now)).length) c30)] (fun _ => by kernel_rfl) (WLd rfl (QXn (hK24 _ _ ?_)))
 refine WCs (fun K35 hK36 => ?_)
 refine WCs (fun K37 hK38 => ?_)
 refine WCg (WLr 3 [(16, .bool (((xs.filter (findP vip port now)).length : Int) == 0)), (15, .int .i64 ((xs.filter (findP vip port now)).length : Int)), (14, .slice A29 ((xs.filter (findP vip port now)).length) c30)] (fun _ => by kernel_rfl) (WLd rfl (QXn (hK38 _ _ ?_))))
 refine WCa 16 (((xs.filter (findP vip port now)).length : Int) == 0) rfl (fun t39b => ?_) (fun t39b => ?_)
 ·
  have t39 : ((xs.filter (findP vip port now)).length : Int) = 0 := by simpa using t39b
  refine WCt rfl ?_
  refine WCs (fun K40 hK41 => ?_)
  refine WCg (WLr 1 [(17, .agg #[.int .u32 0, .int .i64 0, .int .u32 0, .int .i64 0])] (fun _ => by kernel_rfl) ?_)
  refine WLs (c' := #[.int .u32 0, .int .i64 0, .int .u32 0, .int .i64 0]) hC28 3 43 g18 0 (.agg #[.int .u32 0, .int .i64 0, .int .u32 0, .int .i64 0]) (by kernel_rfl) rfl (by kernel_rfl) (fun w42 hF44 hC45 => ?_)
  refine WLr 1 [(9, .bool false)] (fun _ => by kernel_rfl) (WLd rfl (QXn (hK41 _ _ ?_)))
  refine WC.ret ?_
  refine QXr ?_
  refine (hret' _ _ (.tuple #[.agg #[.int .u32 0, .int .i64 0, .int .u32 0, .int .i64 0], .bool false]) (fun a ha => ?_) ?_).1
  ·
   exact res_run ha ((ResR.cell rfl (run_ld (hC45.get 3 rfl) rfl) (ResR.tmp rfl ResR.nil))) rfl
  clear hN hret hret' hK41 hK38 hK36 hK24 hK2
  obtain ⟨q1, q2⟩ := headL_none (ys := (xs.filter (findP vip port now))) (by omega)
  exact ⟨by rw [q1, q2]; try rfl, hC45.fr⟩
 ·
  have t39 : ¬ (((xs.filter (findP vip port now)).length : Int) = 0) := by simpa using t39b
  refine WCf rfl (WC.skip (QXn (hK36 _ _ ?_)))
  refine WCs (fun K47 hK48 => ?_)
  refine WCg (WLr 1 [(18, .slice A29 ((xs.filter (findP vip port now)).length) c30)] (fun _ => by kernel_rfl) ?_)
  have hn53 := own_count encL_len (by decide) ho33
  obtain ⟨e49, he50⟩ := get_some (xs := (xs.filter (findP vip port now))) (i := 0) (by omega)
  obtain ⟨b51, hA52⟩ := own_addr (by decide) encL_len ho33 he50
  refine WLi A29 ((xs.filter (findP vip port now)).length) c30 19 .i64 0 b51 0 0 4 (by kernel_rfl) hA52 (by omega) (by omega) 0 (by first | (simp; done) | omega) ?_
  refine WL.load 43 (.pointer (some ⟨b51, 0, none⟩)) (.agg #[.int .u32 e49.vip, .int .i64 e49.first, .int .u32 e49.dip, .int .i64 e49.exp]) 20 (by kernel_rfl) (run_rdN (l := [.int .u32 e49.vip, .int .i64 e49.first, .int .u32 e49.dip, .int .i64 e49.exp]) rfl rfl (fun j u hu => by have hq_ := Rd.cell (own_rd ho33 encL_len (by decide)) hA52 he50 j u hu; simpa [Nat.add_assoc] using hq_)) ?_
  refine WLs (c' := #[.int .u32 e49.vip, .int .i64 e49.first, .int .u32 e49.dip, .int .i64 e49.exp]) hC28 3 43 g18 0 (.agg #[.int .u32 e49.vip, .int .i64 e49.first, .int .u32 e49.dip, .int .i64 e49.exp]) (by kernel_rfl) rfl (by kernel_rfl) (fun w54 hF56 hC57 => ?_)
  refine WLr 1 [(9, .bool true)] (fun _ => by kernel_rfl) (WLd rfl (QXn (hK48 _ _ ?_)))
  refine WC.ret ?_
  refine (hret' _ _ (.tuple #[.agg #[.int .u32 e49.vip, .int .i64 e49.first, .int .u32 e49.dip, .int .i64 e49.exp], .bool true]) (fun a ha => ?_) ?_).1
  ·
   exact res_run ha ((ResR.cell rfl (run_ld (hC57.get 3 rfl) rfl) (ResR.tmp rfl ResR.nil))) rfl
  clear hN hret hret' hK48 hK38 hK36 hK24 hK2
  obtain ⟨q1, q2⟩ := headL_some he50
  exact ⟨by rw [q1, q2]; try rfl, hC57.fr⟩

end Go.Proofs.YtfligklljkcbfaaDoor
