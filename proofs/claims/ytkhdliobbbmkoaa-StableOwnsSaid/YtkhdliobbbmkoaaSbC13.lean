/- Contracts of functions of the program, each proved by a walk through its code; conditions stand in the statements. -/
import Derived.Test.YtkhdliobbbmkoaaSbB13
namespace Go.Proofs.Ytkhdliobbbmkoaa
set_option linter.unusedSimpArgs false
set_option linter.unusedVariables false
set_option linter.unusedSectionVars false
open Go Go.RowKit Go.Tw
set_option linter.unusedVariables false
set_option maxRecDepth 20000
theorem MCloneB (b cl : Nat) (es : Array MapEntry) (w : World) (hb_ : w.heap[b]? = some (.map es cl)) : Calls Try.prog 33 #[.map (some b)] w fun e w' => ∃ b2, e = .returned (.map (some b2)) ∧ Fr w w' [] ∧ w.heap.size ≤ b2 ∧ w'.heap[b2]? = some (.map es cl) := by
 refine enterD (n := 9) Try.func33 rfl rfl (Nat.le_of_ble_eq_true rfl) ?_
 intro Q0 hN hret hret'
 have hC := Cx.startMs w [(b, .map es cl)] (by simp) (by simp [hb_])
 refine WCs (fun K1 hK2 => ?_)
 refine WCg (WLr 1 [(2, .map none)] (fun _ => by kernel_rfl) (WLd rfl (QXn (hK2 _ _ ?_))))
 refine WCs (fun K3 hK4 => ?_)
 refine WCs (fun K5 hK6 => ?_)
 refine WCg (WLr 2 [(4, .bool false), (3, .map (some b))] (fun _ => by kernel_rfl) (WLd rfl (QXn (hK6 _ _ ?_))))
 refine WCf rfl (WC.skip (QXn (hK4 _ _ ?_)))
 refine WCs (fun K7 hK8 => ?_)
 refine WCg (WLr 2 [(6, .iface 68 (.map (some b))), (5, .map (some b))] (fun _ => by kernel_rfl) ?_)
 refine WL.ext 44 #[.iface 68 (.map (some b))] 7 (.iface 68 (.map (some w.heap.size))) (by kernel_rfl) (run_cloneF (fn := Try.f44) rfl (by kernel_rfl) (by kernel_rfl) (by kernel_rfl) (by kernel_rfl) (hC.get 0 rfl)) ?_
 have hC10 := hC.alloc (.map es cl)
 refine WLr 2 [(2, .map (some w.heap.size)), (8, .map (some w.heap.size))] (fun _ => by kernel_rfl) (WLd rfl (QXn (hK8 _ _ ?_)))
 refine WC.ret ?_
 refine (hret _ _ _ rfl ?_).1
 exact ⟨_, rfl, hC10.fr.shrink (by intro x hx; simp at hx; subst hx; exact (hC10.get 0 rfl).trans hb_.symm), Nat.le_refl _, hC10.get 1 rfl⟩

theorem New_ct (size : Int) (w : World) (h0 : 0 ≤ size) (h1 : size ≤ 67108864) : Calls Try.prog 10 #[.int .i64 size] w fun e w' => ∃ p F, e = .returned (.tuple #[.pointer (some ⟨p, 0, none⟩), .nilIface]) ∧ Fr w w' [] ∧ stAt w' F p [] [] size ∧ ∀ x ∈ F, w.heap.size ≤ x := by
 refine enterD (n := 16) Try.func10 rfl rfl (Nat.le_of_ble_eq_true rfl) ?_
 intro Q0 hN hret hret'
 have hC := Cx.start w
 refine WCs (fun K1 hK2 => ?_)
 refine WCg (WLr 2 [(3, .nilIface), (2, .pointer none)] (fun _ => by kernel_rfl) (WLd rfl (QXn (hK2 _ _ ?_))))
 refine WCs (fun K3 hK4 => ?_)
 refine WCs (fun K5 hK6 => ?_)
 refine WCg (WLr 3 [(6, .bool (decide (size < 0))), (5, .bool (decide (size < 0))), (4, .int .i64 size)] (fun _ => by kernel_rfl) ?_)
 refine WL.know 6 (.bool (decide (size < 0))) (.bool false) rfl (congrArg Value.bool (by simpa using h0)) ?_
 refine WLr 3 [(9, .bool (decide (size > 67108864))), (8, .bool (decide (size > 67108864))), (7, .int .i64 size)] (fun _ => by kernel_rfl) (WLd rfl (QXn (hK6 _ _ ?_)))
 refine WC.know 9 (.bool (decide (size > 67108864))) (.bool false) rfl (congrArg Value.bool (by simpa using h1)) ?_
 refine WCf rfl (WC.skip (QXn (hK4 _ _ ?_)))
 refine WCs (fun K7 hK8 => ?_)
 refine WCg ?_
 refine WL.newM hC (fun b => .map (some b)) (.map #[] 0) 11 (fun _ => by kernel_rfl) (fun g9 w10 hb13 hF11 hC12 => ?_)
 refine WL.newM hC12 (fun b => .map (some b)) (.map #[] 0) 12 (fun _ => by kernel_rfl) (fun g14 w15 hb18 hF16 hC17 => ?_)
 refine WLr 2 [(14, .agg #[.map (some g9), .map (some g14), .int .i64 size]), (13, .int .i64 size)] (fun _ => by kernel_rfl) ?_
 refine WL.newM hC17 (fun b => .pointer (some ⟨b, 0, none⟩)) (.cells #[.map (some g9), .map (some g14), .int .i64 size] 70) 15 (fun _ => by kernel_rfl) (fun g19 w20 hb23 hF21 hC22 => ?_)
 refine WLr 2 [(3, .nilIface), (2, .pointer (some ⟨g19, 0, none⟩))] (fun _ => by kernel_rfl) (WLd rfl (QXn (hK8 _ _ ?_)))
 refine WC.ret ?_
 refine (hret _ _ _ rfl ?_).1
 clear hN hret hret' hK8 hK6 hK4 hK2
 have hp_ := hC22.get 2 rfl
 have h1_ := hC22.get 0 rfl
 have h2_ := hC22.get 1 rfl
 refine ⟨_, _, rfl, hC22.fr, stAt_mk (m1 := []) (m2 := []) hp_ (pairs_nil h1_) (pairs_nil h2_) ⟨hC22.ne 2 0 rfl rfl (by decide), hC22.ne 2 1 rfl rfl (by decide), hC22.ne 0 1 rfl rfl (by decide)⟩ (by simp [rfoot]) ⟨h0, h1⟩ (by simpa [ct, usedL] using h0) (by simpa [ct, usedL] using h0), fun x hx => ?_⟩
 simp only [rfoot_nil, List.append_nil, List.mem_cons, List.not_mem_nil, or_false] at hx
 rcases hx with rfl | rfl | rfl
 exact (hC22.new_ge 2 rfl).resolve_left (fun h_ => nomatch h_)
 exact (hC22.new_ge 0 rfl).resolve_left (fun h_ => nomatch h_)
 exact (hC22.new_ge 1 rfl).resolve_left (fun h_ => nomatch h_)

theorem Used_ct (F : List Nat) (p : Nat) (N Y : Ct) (size : Int)  (w : World) (ht : stAt w F p N Y size) : Calls Try.prog 18 #[.pointer (some ⟨p, 0, none⟩)] w fun e w' => e = .returned (.int .i64 (usedL N : Int)) ∧ Fr w w' [] := by
 refine enterD (n := 10) Try.func18 rfl rfl (Nat.le_of_ble_eq_true rfl) ?_
 intro Q0 hN hret hret'
 have ht0 := ht
 obtain ⟨b1, b2, m1, m2, hp_, hq1_, hq2_, rfl, rfl, rfl, hne_, hft_, hs0_, hs1_, hu1_, hu2_⟩ := ht
 obtain ⟨hne1_, hne2_, hne3_⟩ := hne_
 obtain ⟨es1, cl1, hb1_, hm1_⟩ := hq1_.map
 have hC := Cx.startMs w [(p, .cells #[.map (some b1), .map (some b2), .int .i64 size] 70), (b1, .map es1 cl1)] (by simp [hne1_]) (by simp [hp_, hb1_])
 refine WCs (fun K1 hK2 => ?_)
 refine WCg (WLr 1 [(2, .int .i64 0)] (fun _ => by kernel_rfl) (WLd rfl (QXn (hK2 _ _ ?_))))
 refine WCs (fun K3 hK4 => ?_)
 refine WCs (fun K5 hK6 => ?_)
 refine WCg (WLr 2 [(4, .bool false), (3, .pointer (some ⟨p, 0, none⟩))] (fun _ => by kernel_rfl) (WLd rfl (QXn (hK6 _ _ ?_))))
 refine WCf rfl (WC.skip (QXn (hK4 _ _ ?_)))
 refine WCs (fun K7 hK8 => ?_)
 refine WCg (WLr 3 [(7, .pointer (some ⟨p, 0, none⟩)), (6, .pointer (some ⟨p, 0, none⟩)), (5, .pointer (some ⟨p, 0, none⟩))] (fun _ => by kernel_rfl) ?_)
 refine WL.load 68 (.pointer (some ⟨p, 0, none⟩)) (.map (some b1)) 8 (by kernel_rfl) (run_ld (hC.get 0 rfl) rfl) ?_
 refine WLc rfl rfl rfl rfl rfl (by kernel_rfl) (size_ct b1 m1 w (hq1_.fr (Fr.refl w []) (by simp) (by simp))) ?_
 rintro _ w10 ⟨rfl, hF9⟩
 refine ⟨_, rfl, ?_⟩
 have hC11 := hC.call hF9
 have hf12 := (Fr.refl w []).trans hF9 (by simp)
 refine WLr 1 [(2, .int .i64 (usedL (ct m1) : Int))] (fun _ => by kernel_rfl) (WLd rfl (QXn (hK8 _ _ ?_)))
 refine WC.ret ?_
 refine (hret _ _ _ rfl ?_).1
 exact ⟨rfl, hf12⟩

theorem mem_used {w : World} {b : Nat} {m : Mt} {p : ByteArray × BRow} (h : pairsAt w b m) (hp : p ∈ m) : p.1.size + p.2.n ≤ 67108864 := by
  have h1 := h.used
  have h2 : p.1.size + p.2.xs.length ≤ usedL (ct m) := by
    obtain ⟨s, t, rfl⟩ := List.append_of_mem hp
    unfold ct; rw [List.map_append, used_app, List.map_cons, used_cons]; dsimp only; omega
  have h3 := (h.rows p hp).len
  omega
set_option maxHeartbeats 1000000 in
theorem Get_ct (F : List Nat) (p : Nat) (N Y : Ct) (size : Int) (key : ByteArray) (w : World) (ht : stAt w F p N Y size) : Calls Try.prog 15 #[.pointer (some ⟨p, 0, none⟩), .string key] w fun e w' => ∃ v, e = .returned (.tuple #[v, errV 38 (if (lookL N key).isSome then 0 else 6)]) ∧ Fr w w' [] ∧ w'.ownsRow w.heap.size 5 1 v ((lookL N key).getD []).length (((lookL N key).getD []).flatMap (Go.Tw.encI .u8)) := by
 refine enterD (n := 25) Try.func15 rfl rfl (Nat.le_of_ble_eq_true rfl) ?_
 intro Q0 hN hret hret'
 have ht0 := ht
 obtain ⟨b1, b2, m1, m2, hp_, hq1_, hq2_, rfl, rfl, rfl, hne_, hft_, hs0_, hs1_, hu1_, hu2_⟩ := ht
 obtain ⟨hne1_, hne2_, hne3_⟩ := hne_
 obtain ⟨es1, cl1, hb1_, hm1_⟩ := hq1_.map
 have hC := Cx.startMs w [(p, .cells #[.map (some b1), .map (some b2), .int .i64 size] 70), (b1, .map es1 cl1)] (by simp [hne1_]) (by simp [hp_, hb1_])
 refine WCs (fun K1 hK2 => ?_)
 refine WCg (WLr 2 [(5, .nilIface), (4, .slice none 0 0)] (fun _ => by kernel_rfl) (WLd rfl (QXn (hK2 _ _ ?_))))
 refine WCs (fun K3 hK4 => ?_)
 refine WCs (fun K5 hK6 => ?_)
 refine WCg (WLr 2 [(9, .bool false), (8, .pointer (some ⟨p, 0, none⟩))] (fun _ => by kernel_rfl) (WLd rfl (QXn (hK6 _ _ ?_))))
 refine WCf rfl (WC.skip (QXn (hK4 _ _ ?_)))
 refine WCs (fun K7 hK8 => ?_)
 refine WCg (WLr 3 [(14, .pointer (some ⟨p, 0, none⟩)), (13, .pointer (some ⟨p, 0, none⟩)), (12, .pointer (some ⟨p, 0, none⟩))] (fun _ => by kernel_rfl) ?_)
 refine WL.load 68 (.pointer (some ⟨p, 0, none⟩)) (.map (some b1)) 15 (by kernel_rfl) (run_ld (hC.get 0 rfl) rfl) ?_
 refine WLr 1 [(16, .string key)] (fun _ => by kernel_rfl) ?_
 obtain ⟨xv9, hxv10⟩ : ∃ x_, (lookL m1 key).getD zeroB = x_ := ⟨_, rfl⟩
 obtain ⟨bv11, hbv12⟩ : ∃ b_, (lookL m1 key).isSome = b_ := ⟨_, rfl⟩
 have hr13 := lookM_ok (P := Try.prog) (w := w) (ek := ekS) (ev := evB) (d := zeroB) (rfl : Program.underlying Try.prog 68 = some (.map 9 22)) keyS (fun _ => by kernel_rfl) (hC.get 1 rfl) hm1_ key hxv10 hbv12
 refine WL.sem (Instr.lookup 68 (.map (some b1)) (.string key) true) 17 (.tuple #[.slice xv9.a xv9.n xv9.c, .bool bv11]) (by kernel_rfl) hr13 ?_
 refine WLr 5 [(7, .bool bv11), (6, .slice xv9.a xv9.n xv9.c), (19, .bool bv11), (18, .slice xv9.a xv9.n xv9.c), (11, .tuple #[.slice xv9.a xv9.n xv9.c, .bool bv11])] (fun _ => by kernel_rfl) (WLd rfl (QXn (hK8 _ _ ?_)))
 refine WCs (fun K14 hK15 => ?_)
 refine WCs (fun K16 hK17 => ?_)
 refine WCg (WLr 2 [(21, .bool !bv11), (20, .bool bv11)] (fun _ => by kernel_rfl) (WLd rfl (QXn (hK17 _ _ ?_))))
 refine WCa 21 (!bv11) rfl (fun t18b => ?_) (fun t18b => ?_)
 ·
  have t18 : bv11 = false := by first | (simpa only [Bool.not_eq_true', Bool.not_eq_false'] using t18b) | simpa using t18b
  refine WCt rfl ?_
  refine WCs (fun K19 hK20 => ?_)
  refine WCg (WLr 3 [(5, .iface 38 (.int .i64 6)), (4, .slice none 0 0), (22, .iface 38 (.int .i64 6))] (fun _ => by kernel_rfl) (WLd rfl (QXn (hK20 _ _ ?_))))
  refine WC.ret ?_
  refine QXr ?_
  refine (hret _ _ _ rfl ?_).1
  clear hN hret hret' hK20 hK17 hK15 hK8 hK6 hK4 hK2
  rw [(by rw [ct_look, (look_none hxv10 (by rw [hbv12]; simpa using t18b)).1]; rfl : lookL (ct m1) key = none)]
  exact ⟨_, rfl, (Fr.refl w []), own_nil _ _ _ _⟩
 ·
  have t18 : bv11 = true := by first | (simpa only [Bool.not_eq_true', Bool.not_eq_false'] using t18b) | simpa using t18b
  refine WCf rfl (WC.skip (QXn (hK15 _ _ ?_)))
  refine WCs (fun K21 hK22 => ?_)
  refine WCg (WLr 1 [(23, .slice xv9.a xv9.n xv9.c)] (fun _ => by kernel_rfl) ?_)
  have hmx_ := look_mem (look_some hxv10 (by rw [hbv12]; simpa using t18b))
  have hrx_ := hq1_.rows _ hmx_
  have hrl_ := hrx_.len
  have hrk_ := mem_used hq1_ hmx_
  have h0_ : ∀ x ∈ [p, b1], x < w.heap.size := by intro x hx; simp at hx; rcases hx with rfl | rfl; exact lt_of_heap hp_; exact lt_of_heap hb1_
  refine WLc rfl rfl rfl rfl rfl (by kernel_rfl) (CloneB xv9.a xv9.n xv9.c xv9.xs w hrl_ (Rd.fr hrx_.rd (Fr.refl w [])) (by dsimp only at hrk_ hrl_; omega)) ?_
  rintro _ w25 ⟨v_, rfl, hF24, ho23⟩
  have hC26 := hC.callN hF24 (own_ge ho23) (own_lt ho23)
  obtain ⟨A27, c28, rfl, hle29⟩ := own_form ho23
  have ho31 := own_base (b' := 0) ho23 (fun _ _ => Nat.zero_le _)
  refine ⟨_, rfl, ?_⟩
  have hf32 := (Fr.refl w []).trans hF24 (by simp)
  refine WLr 2 [(5, .nilIface), (4, .slice A27 xv9.xs.length c28)] (fun _ => by kernel_rfl) (WLd rfl (QXn (hK22 _ _ ?_)))
  refine WC.ret ?_
  refine (hret _ _ _ rfl ?_).1
  clear hN hret hret' hK22 hK17 hK15 hK8 hK6 hK4 hK2
  rw [(by rw [ct_look, (look_some hxv10 (by rw [hbv12]; simpa using t18b))]; rfl : lookL (ct m1) key = some xv9.xs)]
  exact ⟨_, rfl, hf32, by simpa [shut] using own_base ho31 (newF_of hC26 0 rfl (by first | (simp; done) | exact h0_) (by first | (simp; done) | (intro q_ hq_; simp at hq_; rcases hq_ with rfl | rfl; exact hC26.notin 0 0 rfl rfl; exact hC26.notin 0 1 rfl rfl)))⟩

end Go.Proofs.Ytkhdliobbbmkoaa
