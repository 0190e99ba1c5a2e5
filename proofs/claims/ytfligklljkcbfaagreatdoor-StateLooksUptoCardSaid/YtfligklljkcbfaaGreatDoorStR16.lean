/- Contracts of functions of the program, each proved by a walk through its code; conditions stand in the statements. -/
import Derived.Test.YtfligklljkcbfaaGreatDoorStQ16
namespace Go.Proofs.YtfligklljkcbfaaGreatDoor
set_option linter.unusedSimpArgs false
set_option linter.unusedVariables false
set_option linter.unusedSectionVars false
open Go Go.RowKit Go.Tw
set_option linter.unusedVariables false
set_option maxRecDepth 20000
theorem int_bne (a b : Int) : (a != b) = !decide (a = b) := by rw [Bool.eq_iff_iff]; simp
theorem lease_beq (a b : Lease) : (a.vip == b.vip && (a.first == b.first && (a.dip == b.dip && (a.exp == b.exp && true)))) = decide (a = b) := by
  obtain ⟨v, f, d, x⟩ := a; obtain ⟨v', f', d', x'⟩ := b
  rw [Bool.eq_iff_iff]; simp
theorem snat_beq (a b : SnatV) : (a.dip == b.dip && (a.vip == b.vip && true)) = decide (a = b) := by
  obtain ⟨v, f⟩ := a; obtain ⟨v', f'⟩ := b
  rw [Bool.eq_iff_iff]; simp
section
variable {α : Type} [DecidableEq α] {xs ys : List α} {i : Nat} {a b : α}
theorem eqs_snoc (h : xs.take i = ys.take i) (ha : xs[i]? = some a) (hb : ys[i]? = some b) (he : (!decide (a = b)) = false) : xs.take (i + 1) = ys.take (i + 1) := by
  have e : a = b := by simpa using he
  subst e
  obtain ⟨hi, h1⟩ := List.getElem?_eq_some_iff.1 ha
  obtain ⟨hj, h2⟩ := List.getElem?_eq_some_iff.1 hb
  rw [List.take_succ_eq_append_getElem hi, List.take_succ_eq_append_getElem hj, h, h1, h2]
theorem eqs_miss (ha : xs[i]? = some a) (hb : ys[i]? = some b) (he : (!decide (a = b)) = true) : decide (xs = ys) = false := by
  refine decide_eq_false fun e => ?_
  subst e
  rw [ha] at hb; cases hb; simp at he
end
def bigN (m : CmdV) : Nat := 1 + m.ends.length / 4
def bigL (cs : List CmdV) : Nat := (cs.map bigN).sum
def totE (L : List Cmd) : Nat := (L.map fun m => 12 + 3 * m.v.ends.length).sum
theorem epoch_apply (C : CfgV) (c : CmdV) : (applyC C c).epoch = C.epoch + 1 := by
  unfold applyC svcC snatC sickC leaseC
  repeat' split
  all_goals rfl
theorem epoch_from (C : CfgV) (cs : List CmdV) : (foldFrom C cs).epoch = C.epoch + cs.length := by
  induction cs generalizing C with
  | nil => simp [foldFrom]
  | cons c r ih => rw [foldFrom, ih, epoch_apply, List.length_cons]; omega
theorem epoch_fold (cs : List CmdV) : (foldC cs).epoch = (cs.length : Int) := by unfold foldC; rw [epoch_from]; show 0 + _ = _; omega
theorem res_len (cs : List CmdV) : (resC cs).length = cs.length := resFrom_len _ _
theorem cmd_nil {w : World} {v : CmdV} (hw : wfC v) (he : v.ends = []) : cmdAt w ⟨v, none, 0⟩ := ⟨by show Rd w 3 cellsE none v.ends; rw [he]; exact Rd.nil _ _ _ _, hw, by show v.ends.length ≤ _; rw [he]; exact Nat.zero_le _, by show v.ends.length ≤ 0; rw [he]; exact Nat.le_refl _⟩
def snatK (dip : Int) : CmdV := ⟨16, 0, 0, 0, 2, 0, 0, 0, [], dip, 16843009, true⟩
def borrowK (dip now : Int) : CmdV := ⟨16, 0, now, now, 4, 0, 0, 0, [], dip, 0, false⟩
def aliveK : List Cmd := [⟨snatK 167837697, none, 0⟩, ⟨borrowK 167837697 5, none, 0⟩, ⟨borrowK 167837697 30, none, 0⟩, ⟨borrowK 167837697 40, none, 0⟩]
theorem aliveK_at (w : World) : ∀ m ∈ aliveK, cmdAt w m := by
  intro m hm
  simp only [aliveK, List.mem_cons, List.not_mem_nil, or_false] at hm
  rcases hm with rfl | rfl | rfl | rfl <;> exact cmd_nil ⟨⟨by decide, by decide⟩, ⟨by decide, by decide⟩, ⟨by decide, by decide⟩, ⟨by decide, by decide⟩, ⟨by decide, by decide⟩, ⟨by decide, by decide⟩, ⟨by decide, by decide⟩, ⟨by decide, by decide⟩, ⟨by decide, by decide⟩, ⟨by decide, by decide⟩, fun _ h => (nomatch h)⟩ rfl
theorem alive_now : (foldC (vals aliveK)).now = 40 := by decide +kernel
theorem alive_res : (resC (vals aliveK)).map (fun r => (r.lease.first, r.lease.exp)) = [(0, 0), (1024, 69), (1032, 94), (1024, 104)] := by decide +kernel
theorem alive_at {k : Nat} {r : ResV} (h : (resC (vals aliveK))[k]? = some r) : ([(0, 0), (1024, 69), (1032, 94), (1024, 104)] : List (Int × Int))[k]? = some (r.lease.first, r.lease.exp) := by
  rw [← alive_res, List.getElem?_map, h]; rfl
theorem Fold_n (A : Option Addr) (n c : Nat) (L : List Cmd) (w : World) (hr : Rd w 12 cellsC A L) (hn : L.length = n) (hL : ∀ m ∈ L, cmdAt w m) (hll : n ≤ 10000000000) (hg : Rd w 1 (encI .u8) (some ⟨0, 0, none⟩) dbTab) : Calls Tryz.prog 9 #[.slice A n c] w fun e w' => ∃ (AS : Option Addr) (cS : Nat) (xs : List Svc) (AN : Option Addr) (cN : Nat) (AK : Option Addr) (cK : Nat) (AL : Option Addr) (cL : Nat) (AR : Option Addr) (cR : Nat) (G : List Nat), e = .returned (.tuple #[.agg #[.int .i64 ((foldC (vals L)).epoch), .int .i64 ((foldC (vals L)).now), .slice AS xs.length cS, .slice AN ((foldC (vals L)).snats.length) cN, .slice AK ((foldC (vals L)).sick.length) cK, .slice AL ((foldC (vals L)).leases.length) cL], .slice AR ((resC (vals L)).length) cR]) ∧ Fr w w' [] ∧ FoldR w' G (foldC (vals L)) (resC (vals L)) AS cS xs AN cN AK cK AL cL AR cR ∧ ∀ x ∈ G, w.heap.size ≤ x := by subst hn; exact Fold_ct A c L w hr hL hll hg
theorem snatL_ct (dip : Int) (w : World) : Calls Tryz.prog 29 #[U4 dip] w fun e w' => e = .returned (.agg #[I6 16, I6 0, I6 0, I6 0, I6 2, U4 0, I6 0, I6 0, .slice none 0 0, U4 dip, U4 16843009, .bool true]) ∧ Fr w w' [] := by
 refine enterD (n := 5) Tryz.func29 rfl rfl (Nat.le_of_ble_eq_true rfl) ?_
 intro Q0 hN hret hret'
 have hC := Cx.start w
 refine WCs (fun K1 hK2 => WCg (WLb hC (.cells #[I6 0, I6 0, I6 0, I6 0, I6 0, U4 0, I6 0, I6 0, .slice none 0 0, U4 0, U4 0, .bool false] 45) 2 (fun g3 w4 hb7 hF5 hC6 => WLd rfl (QXn (hK2 _ _ (WCs (fun K8 hK9 => WCg ?_)))))))
 refine WLz 2 [(4, .agg #[I6 16, I6 0, I6 0, I6 0, I6 2, U4 0, I6 0, I6 0, .slice none 0 0, U4 dip, U4 16843009, .bool true])] (WLv (c' := #[I6 16, I6 0, I6 0, I6 0, I6 2, U4 0, I6 0, I6 0, .slice none 0 0, U4 dip, U4 16843009, .bool true]) hC6 0 45 g3 0 (.agg #[I6 16, I6 0, I6 0, I6 0, I6 2, U4 0, I6 0, I6 0, .slice none 0 0, U4 dip, U4 16843009, .bool true]) (fun ac ab aa => WLd rfl (QXn (hK9 _ _ (WC.ret ?_)))))
 refine (hret' _ _ (.agg #[I6 16, I6 0, I6 0, I6 0, I6 2, U4 0, I6 0, I6 0, .slice none 0 0, U4 dip, U4 16843009, .bool true]) (fun a ha => ?_) ?_).1
 ·
  exact res_run ha ((ResR.cell rfl (run_ld (aa.get 0 rfl) rfl) ResR.nil)) rfl
 exact ⟨rfl, aa.fr⟩

theorem borrow_ct (dip now : Int) (w : World) : Calls Tryz.prog 30 #[U4 dip, I6 now] w fun e w' => e = .returned (.agg #[I6 16, I6 0, I6 now, I6 now, I6 4, U4 0, I6 0, I6 0, .slice none 0 0, U4 dip, U4 0, .bool false]) ∧ Fr w w' [] := by
 refine enterD (n := 9) Tryz.func30 rfl rfl (Nat.le_of_ble_eq_true rfl) ?_
 intro Q0 hN hret hret'
 have hC := Cx.start w
 refine WCs (fun K1 hK2 => WCg (WLb hC (.cells #[I6 0, I6 0, I6 0, I6 0, I6 0, U4 0, I6 0, I6 0, .slice none 0 0, U4 0, U4 0, .bool false] 45) 4 (fun g3 w4 hb7 hF5 hC6 => WLd rfl (QXn (hK2 _ _ (WCs (fun K8 hK9 => WCg ?_)))))))
 refine WLz 4 [(8, .agg #[I6 16, I6 0, I6 now, I6 now, I6 4, U4 0, I6 0, I6 0, .slice none 0 0, U4 dip, U4 0, .bool false])] (WLv (c' := #[I6 16, I6 0, I6 now, I6 now, I6 4, U4 0, I6 0, I6 0, .slice none 0 0, U4 dip, U4 0, .bool false]) hC6 0 45 g3 0 (.agg #[I6 16, I6 0, I6 now, I6 now, I6 4, U4 0, I6 0, I6 0, .slice none 0 0, U4 dip, U4 0, .bool false]) (fun ac ab aa => WLd rfl (QXn (hK9 _ _ (WC.ret ?_)))))
 refine (hret' _ _ (.agg #[I6 16, I6 0, I6 now, I6 now, I6 4, U4 0, I6 0, I6 0, .slice none 0 0, U4 dip, U4 0, .bool false]) (fun a ha => ?_) ?_).1
 ·
  exact res_run ha ((ResR.cell rfl (run_ld (aa.get 0 rfl) rfl) ResR.nil)) rfl
 exact ⟨rfl, aa.fr⟩

set_option maxHeartbeats 1000000 in
theorem alive_ct  (w : World) (hg : Rd w 1 (encI .u8) (some ⟨0, 0, none⟩) dbTab) : Calls Tryz.prog 6 #[] w fun e w' => e = .returned (.bool true) ∧ Fr w w' [] := by
 refine enterD (n := 65) Tryz.func6 rfl rfl (Nat.le_of_ble_eq_true rfl) ?_
 intro Q0 hN hret hret'
 have hC := Cx.start w
 refine WCs (fun K1 hK2 => WCg (WLq 1 [(0, .bool false)] (WLd rfl (QXn (hK2 _ _ (WCs (fun K3 hK4 => WCg (WLk (snatL_ct 167837697 w) ?_))))))))
 rintro _ w6 ⟨rfl, hF5⟩
 refine ⟨_, rfl, ?_⟩
 have hC7 := hC.call hF5
 refine WLk (borrow_ct 167837697 5 w6) ?_
 rintro _ w9 ⟨rfl, hF8⟩
 refine ⟨_, rfl, ?_⟩
 have aF := hC7.call hF8
 refine WLk (borrow_ct 167837697 30 w9) ?_
 rintro _ aV ⟨rfl, aG⟩
 refine ⟨_, rfl, ?_⟩
 have aH := aF.call aG
 refine WLk (borrow_ct 167837697 40 aV) ?_
 rintro _ a8 ⟨rfl, aI⟩
 refine ⟨_, rfl, ?_⟩
 have aJ := aH.call aI
 refine WL.newM aJ (fun b => .slice (some ⟨b, 0, none⟩) 4 4) (.cells #[I6 16, I6 0, I6 0, I6 0, I6 2, U4 0, I6 0, I6 0, .slice none 0 0, U4 167837697, U4 16843009, .bool true, I6 16, I6 0, I6 5, I6 5, I6 4, U4 0, I6 0, I6 0, .slice none 0 0, U4 167837697, U4 0, .bool false, I6 16, I6 0, I6 30, I6 30, I6 4, U4 0, I6 0, I6 0, .slice none 0 0, U4 167837697, U4 0, .bool false, I6 16, I6 0, I6 40, I6 40, I6 4, U4 0, I6 0, I6 0, .slice none 0 0, U4 167837697, U4 0, .bool false] 45) 8 (fun _ => by kernel_rfl) (fun aW aX aY aZ an => WLk (Fold_n (some ⟨aW, 0, none⟩) 4 4 aliveK aX (Rd.blk (an.get 0 rfl) cellsC_len rfl) rfl (aliveK_at _) (by decide) (Rd.fr hg an.fr)) ?_)
 rintro _ a9 ⟨ad, ae, af, ag, ah, ai, aj, ak, al, aa, ab, a0, rfl, aK, am, aL⟩
 have aM := an.callN aK aL am.lt
 refine ⟨_, rfl, ?_⟩
 refine WLz 3 [(11, .slice aa ((resC (vals aliveK)).length) ab), (10, .agg #[I6 ((foldC (vals aliveK)).epoch), I6 ((foldC (vals aliveK)).now), .slice ad af.length ae, .slice ag ((foldC (vals aliveK)).snats.length) ah, .slice ai ((foldC (vals aliveK)).sick.length) aj, .slice ak ((foldC (vals aliveK)).leases.length) al])] (WLb aM (.cells #[I6 0, I6 0, .slice none 0 0, .slice none 0 0, .slice none 0 0, .slice none 0 0] 31) 1 (fun ax ba a1 ay ao => ?_))
 have aN := own_fr am.R ay (by simp)
 have aO := svcsIn.fr am.ins ay (by simp)
 refine WLv (c' := #[I6 ((foldC (vals aliveK)).epoch), I6 ((foldC (vals aliveK)).now), .slice ad af.length ae, .slice ag ((foldC (vals aliveK)).snats.length) ah, .slice ai ((foldC (vals aliveK)).sick.length) aj, .slice ak ((foldC (vals aliveK)).leases.length) al]) ao 1 31 ax 0 (.agg #[I6 ((foldC (vals aliveK)).epoch), I6 ((foldC (vals aliveK)).now), .slice ad af.length ae, .slice ag ((foldC (vals aliveK)).snats.length) ah, .slice ai ((foldC (vals aliveK)).sick.length) aj, .slice ak ((foldC (vals aliveK)).leases.length) al]) (fun bb az ap => ?_)
 have ac := own_fr aN az (fun x_ hx_ => (ao.apartM 0 1 rfl rfl) x_ (am.sR x_ hx_))
 have a2 := svcsIn.fr aO az (ao.apartM 0 1 rfl rfl)
 refine WLq 1 [(2, .slice aa ((resC (vals aliveK)).length) ab)] (WLd rfl (QXn (hK4 _ _ (WCs (fun bc aP => WCg (WLz 4 [(15, .bool (((resC (vals aliveK)).length : Int) == 4))] (WL.know 15 (.bool (((resC (vals aliveK)).length : Int) == 4)) (.bool true) rfl (congrArg Value.bool (by rw [res_len]; rfl)) (WLq 1 [(16, P0 ax 0)] ?_))))))))
 refine WLo 3 (P0 ax 0) (I6 ((foldC (vals aliveK)).epoch)) 17 (run_ld (ap.get 1 rfl) rfl) (WLz 3 [(20, .bool (((foldC (vals aliveK)).epoch) == 4))] (WL.know 20 (.bool (((foldC (vals aliveK)).epoch) == 4)) (.bool true) rfl (congrArg Value.bool (by rw [epoch_fold]; rfl)) (WLq 1 [(21, P0 ax 1)] (WLo 3 (P0 ax 1) (I6 ((foldC (vals aliveK)).now)) 22 (run_ld (ap.get 1 rfl) rfl) (WLz 3 [(25, .bool (((foldC (vals aliveK)).now) == 40))] ?_)))))
 refine WL.know 25 (.bool (((foldC (vals aliveK)).now) == 40)) (.bool true) rfl (congrArg Value.bool (by rw [alive_now]; rfl)) (WLq 1 [(26, .slice aa ((resC (vals aliveK)).length) ab)] ?_)
 have a3 := own_count cellsR_len (by decide) ac
 obtain ⟨aQ, aq⟩ := get_some (xs := (resC (vals aliveK))) (i := 1) (by first | omega | (have q_ := res_len (vals aliveK); have q2_ : (vals aliveK).length = 4 := rfl; omega))
 obtain ⟨b55, aA⟩ := own_addr (by decide) cellsR_len ac aq
 refine WLi aa ((resC (vals aliveK)).length) ab 27 .i64 1 b55 0 1 5 (by kernel_rfl) aA (by first | omega | (have q_ := res_len (vals aliveK); have q2_ : (vals aliveK).length = 4 := rfl; omega)) (by first | omega | (have q_ := res_len (vals aliveK); have q2_ : (vals aliveK).length = 4 := rfl; omega)) 5 (by first | (simp; done) | omega) (WLz 2 [(29, P0 b55 7)] (WLo 3 (P0 b55 7) (I6 aQ.lease.first) 30 (run_load1 rfl (by simpa [Nat.add_assoc] using Rd.cell (own_rd ac cellsR_len (by decide)) aA aq 2 _ rfl)) (WLz 3 [(33, .bool (aQ.lease.first == 1024))] (WL.know 33 (.bool (aQ.lease.first == 1024)) (.bool true) rfl (congrArg Value.bool (by have q_ := alive_at aq; simp at q_; rw [← q_.1]; rfl)) (WLq 1 [(34, .slice aa ((resC (vals aliveK)).length) ab)] ?_)))))
 have a4 := own_count cellsR_len (by decide) ac
 obtain ⟨aR, ar⟩ := get_some (xs := (resC (vals aliveK))) (i := 1) (by first | omega | (have q_ := res_len (vals aliveK); have q2_ : (vals aliveK).length = 4 := rfl; omega))
 obtain ⟨b60, aB⟩ := own_addr (by decide) cellsR_len ac ar
 refine WLi aa ((resC (vals aliveK)).length) ab 35 .i64 1 b60 0 1 5 (by kernel_rfl) aB (by first | omega | (have q_ := res_len (vals aliveK); have q2_ : (vals aliveK).length = 4 := rfl; omega)) (by first | omega | (have q_ := res_len (vals aliveK); have q2_ : (vals aliveK).length = 4 := rfl; omega)) 5 (by first | (simp; done) | omega) (WLz 2 [(37, P0 b60 9)] (WLo 3 (P0 b60 9) (I6 aR.lease.exp) 38 (run_load1 rfl (by simpa [Nat.add_assoc] using Rd.cell (own_rd ac cellsR_len (by decide)) aB ar 4 _ rfl)) (WLz 3 [(41, .bool (aR.lease.exp == 69))] (WL.know 41 (.bool (aR.lease.exp == 69)) (.bool true) rfl (congrArg Value.bool (by have q_ := alive_at ar; simp at q_; rw [← q_.2]; rfl)) (WLq 1 [(42, .slice aa ((resC (vals aliveK)).length) ab)] ?_)))))
 have a5 := own_count cellsR_len (by decide) ac
 obtain ⟨aS, au⟩ := get_some (xs := (resC (vals aliveK))) (i := 2) (by first | omega | (have q_ := res_len (vals aliveK); have q2_ : (vals aliveK).length = 4 := rfl; omega))
 obtain ⟨b65, aC⟩ := own_addr (by decide) cellsR_len ac au
 refine WLi aa ((resC (vals aliveK)).length) ab 43 .i64 2 b65 0 2 5 (by kernel_rfl) aC (by first | omega | (have q_ := res_len (vals aliveK); have q2_ : (vals aliveK).length = 4 := rfl; omega)) (by first | omega | (have q_ := res_len (vals aliveK); have q2_ : (vals aliveK).length = 4 := rfl; omega)) 10 (by first | (simp; done) | omega) (WLz 2 [(45, P0 b65 12)] (WLo 3 (P0 b65 12) (I6 aS.lease.first) 46 (run_load1 rfl (by simpa [Nat.add_assoc] using Rd.cell (own_rd ac cellsR_len (by decide)) aC au 2 _ rfl)) (WLz 3 [(49, .bool (aS.lease.first == 1032))] (WL.know 49 (.bool (aS.lease.first == 1032)) (.bool true) rfl (congrArg Value.bool (by have q_ := alive_at au; simp at q_; rw [← q_.1]; rfl)) (WLq 1 [(50, .slice aa ((resC (vals aliveK)).length) ab)] ?_)))))
 have a6 := own_count cellsR_len (by decide) ac
 obtain ⟨aT, av⟩ := get_some (xs := (resC (vals aliveK))) (i := 3) (by first | omega | (have q_ := res_len (vals aliveK); have q2_ : (vals aliveK).length = 4 := rfl; omega))
 obtain ⟨b70, aD⟩ := own_addr (by decide) cellsR_len ac av
 refine WLi aa ((resC (vals aliveK)).length) ab 51 .i64 3 b70 0 3 5 (by kernel_rfl) aD (by first | omega | (have q_ := res_len (vals aliveK); have q2_ : (vals aliveK).length = 4 := rfl; omega)) (by first | omega | (have q_ := res_len (vals aliveK); have q2_ : (vals aliveK).length = 4 := rfl; omega)) 15 (by first | (simp; done) | omega) (WLz 2 [(53, P0 b70 17)] (WLo 3 (P0 b70 17) (I6 aT.lease.first) 54 (run_load1 rfl (by simpa [Nat.add_assoc] using Rd.cell (own_rd ac cellsR_len (by decide)) aD av 2 _ rfl)) (WLz 3 [(57, .bool (aT.lease.first == 1024))] (WL.know 57 (.bool (aT.lease.first == 1024)) (.bool true) rfl (congrArg Value.bool (by have q_ := alive_at av; simp at q_; rw [← q_.1]; rfl)) (WLq 1 [(58, .slice aa ((resC (vals aliveK)).length) ab)] ?_)))))
 have a7 := own_count cellsR_len (by decide) ac
 obtain ⟨aU, aw⟩ := get_some (xs := (resC (vals aliveK))) (i := 3) (by first | omega | (have q_ := res_len (vals aliveK); have q2_ : (vals aliveK).length = 4 := rfl; omega))
 obtain ⟨b75, aE⟩ := own_addr (by decide) cellsR_len ac aw
 refine WLi aa ((resC (vals aliveK)).length) ab 59 .i64 3 b75 0 3 5 (by kernel_rfl) aE (by first | omega | (have q_ := res_len (vals aliveK); have q2_ : (vals aliveK).length = 4 := rfl; omega)) (by first | omega | (have q_ := res_len (vals aliveK); have q2_ : (vals aliveK).length = 4 := rfl; omega)) 15 (by first | (simp; done) | omega) (WLz 2 [(61, P0 b75 19)] (WLo 3 (P0 b75 19) (I6 aU.lease.exp) 62 (run_load1 rfl (by simpa [Nat.add_assoc] using Rd.cell (own_rd ac cellsR_len (by decide)) aE aw 4 _ rfl)) (WLz 3 [(0, .bool (aU.lease.exp == 104))] (WLd rfl (QXn (aP _ _ (WC.ret ?_)))))))
 refine (hret _ _ _ rfl ?_).1
 exact ⟨congrArg (fun b_ => Ending.returned (Value.bool b_)) (show ((aU.lease.exp == 104)) = true from by have q_ := alive_at aw; simp at q_; rw [← q_.2]; rfl), ap.fr⟩

end Go.Proofs.YtfligklljkcbfaaGreatDoor
