/- Contracts of functions of the program, each proved by a walk through its code; conditions stand in the statements. -/
import Derived.Test.YtfligklljkcbfaaGreatDoorStQ16
namespace Go.Proofs.YtfligklljkcbfaaGreatDoor
set_option linter.unusedSimpArgs false
set_option linter.unusedVariables false
set_option linter.unusedSectionVars false
open Go Go.RowKit Go.Tw
set_option linter.unusedVariables false
set_option maxRecDepth 20000
theorem int_bne (a b : Int) : (a != b) = !decide (a = b) := by rw [Bool.eq_iff_iff]; simp
theorem lease_beq (a b : Lease) : (a.vip == b.vip && (a.first == b.first && (a.dip == b.dip && (a.exp == b.exp && true)))) = decide (a = b) := by
  obtain ⟨v, f, d, x⟩ := a; obtain ⟨v', f', d', x'⟩ := b
  rw [Bool.eq_iff_iff]; simp
theorem snat_beq (a b : SnatV) : (a.dip == b.dip && (a.vip == b.vip && true)) = decide (a = b) := by
  obtain ⟨v, f⟩ := a; obtain ⟨v', f'⟩ := b
  rw [Bool.eq_iff_iff]; simp
section
variable {α : Type} [DecidableEq α] {xs ys : List α} {i : Nat} {a b : α}
theorem eqs_snoc (h : xs.take i = ys.take i) (ha : xs[i]? = some a) (hb : ys[i]? = some b) (he : (!decide (a = b)) = false) : xs.take (i + 1) = ys.take (i + 1) := by
  have e : a = b := by simpa using he
  subst e
  obtain ⟨hi, h1⟩ := List.getElem?_eq_some_iff.1 ha
  obtain ⟨hj, h2⟩ := List.getElem?_eq_some_iff.1 hb
  rw [List.take_succ_eq_append_getElem hi, List.take_succ_eq_append_getElem hj, h, h1, h2]
theorem eqs_miss (ha : xs[i]? = some a) (hb : ys[i]? = some b) (he : (!decide (a = b)) = true) : decide (xs = ys) = false := by
  refine decide_eq_false fun e => ?_
  subst e
  rw [ha] at hb; cases hb; simp at he
end
def bigN (m : CmdV) : Nat := 1 + m.ends.length / 4
def bigL (cs : List CmdV) : Nat := (cs.map bigN).sum
theorem bigL_step {L : List Cmd} {i : Nat} {m : Cmd} (h : L[i]? = some m) : bigL (vals (L.take (i + 1))) = bigL (vals (L.take i)) + (1 + m.v.ends.length / 4) := by
  obtain ⟨hi, rfl⟩ := List.getElem?_eq_some_iff.1 h
  rw [List.take_succ_eq_append_getElem hi, vals_snoc]
  simp [bigL, bigN]
theorem bigL_len (cs : List CmdV) : cs.length ≤ bigL cs := by
  induction cs with
  | nil => exact Nat.le_refl _
  | cons c r ih => simp only [bigL, List.map_cons, List.sum_cons, List.length_cons, bigN] at ih ⊢; omega
def totE (L : List Cmd) : Nat := (L.map fun m => 12 + 3 * m.v.ends.length).sum
theorem totE_len (L : List Cmd) : 12 * L.length ≤ totE L := by
  induction L with
  | nil => simp [totE]
  | cons a r ih => simp only [totE, List.map_cons, List.sum_cons, List.length_cons] at ih ⊢; omega
theorem bigL_tot (L : List Cmd) : bigL (vals L) ≤ totE L := by
  induction L with
  | nil => simp [totE, bigL, vals]
  | cons a r ih => simp only [totE, bigL, vals, List.map_cons, List.sum_cons, List.map_map, bigN] at ih ⊢; omega
theorem bigL_take (L : List Cmd) (i : Nat) : bigL (vals (L.take i)) ≤ bigL (vals L) := by
  conv => rhs; rw [← List.take_append_drop i L]
  simp only [bigL, vals, List.map_append, List.sum_append]; omega
theorem epoch_apply (C : CfgV) (c : CmdV) : (applyC C c).epoch = C.epoch + 1 := by
  unfold applyC svcC snatC sickC leaseC
  repeat' split
  all_goals rfl
theorem epoch_from (C : CfgV) (cs : List CmdV) : (foldFrom C cs).epoch = C.epoch + cs.length := by
  induction cs generalizing C with
  | nil => simp [foldFrom]
  | cons c r ih => rw [foldFrom, ih, epoch_apply, List.length_cons]; omega
theorem epoch_fold (cs : List CmdV) : (foldC cs).epoch = (cs.length : Int) := by unfold foldC; rw [epoch_from]; show 0 + _ = _; omega
theorem res_len (cs : List CmdV) : (resC cs).length = cs.length := resFrom_len _ _
theorem cmd_nil {w : World} {v : CmdV} (hw : wfC v) (he : v.ends = []) : cmdAt w ⟨v, none, 0⟩ := ⟨by show Rd w 3 cellsE none v.ends; rw [he]; exact Rd.nil _ _ _ _, hw, by show v.ends.length ≤ _; rw [he]; exact Nat.zero_le _, by show v.ends.length ≤ 0; rw [he]; exact Nat.le_refl _⟩
def snatK (dip : Int) : CmdV := ⟨16, 0, 0, 0, 2, 0, 0, 0, [], dip, 16843009, true⟩
def borrowK (dip now : Int) : CmdV := ⟨16, 0, now, now, 4, 0, 0, 0, [], dip, 0, false⟩
def aliveK : List Cmd := [⟨snatK 167837697, none, 0⟩, ⟨borrowK 167837697 5, none, 0⟩, ⟨borrowK 167837697 30, none, 0⟩, ⟨borrowK 167837697 40, none, 0⟩]
theorem aliveK_at (w : World) : ∀ m ∈ aliveK, cmdAt w m := by
  intro m hm
  simp only [aliveK, List.mem_cons, List.not_mem_nil, or_false] at hm
  rcases hm with rfl | rfl | rfl | rfl <;> exact cmd_nil ⟨⟨by decide, by decide⟩, ⟨by decide, by decide⟩, ⟨by decide, by decide⟩, ⟨by decide, by decide⟩, ⟨by decide, by decide⟩, ⟨by decide, by decide⟩, ⟨by decide, by decide⟩, ⟨by decide, by decide⟩, ⟨by decide, by decide⟩, ⟨by decide, by decide⟩, fun _ h => (nomatch h)⟩ rfl
theorem alive_now : (foldC (vals aliveK)).now = 40 := by decide +kernel
theorem alive_res : (resC (vals aliveK)).map (fun r => (r.lease.first, r.lease.exp)) = [(0, 0), (1024, 69), (1032, 94), (1024, 104)] := by decide +kernel
theorem alive_at {k : Nat} {r : ResV} (h : (resC (vals aliveK))[k]? = some r) : ([(0, 0), (1024, 69), (1032, 94), (1024, 104)] : List (Int × Int))[k]? = some (r.lease.first, r.lease.exp) := by
  rw [← alive_res, List.getElem?_map, h]; rfl
theorem Fold_n (A : Option Addr) (n c : Nat) (L : List Cmd) (w : World) (hr : Rd w 12 cellsC A L) (hn : L.length = n) (hL : ∀ m ∈ L, cmdAt w m) (hll : n ≤ 10000000000) (hg : Rd w 1 (encI .u8) (some ⟨0, 0, none⟩) dbTab) : Calls Tryz.prog 9 #[.slice A n c] w fun e w' => ∃ (AS : Option Addr) (cS : Nat) (xs : List Svc) (AN : Option Addr) (cN : Nat) (AK : Option Addr) (cK : Nat) (AL : Option Addr) (cL : Nat) (AR : Option Addr) (cR : Nat) (G : List Nat), e = .returned (.tuple #[.agg #[.int .i64 ((foldC (vals L)).epoch), .int .i64 ((foldC (vals L)).now), .slice AS xs.length cS, .slice AN ((foldC (vals L)).snats.length) cN, .slice AK ((foldC (vals L)).sick.length) cK, .slice AL ((foldC (vals L)).leases.length) cL], .slice AR ((resC (vals L)).length) cR]) ∧ Fr w w' [] ∧ FoldR w' G (foldC (vals L)) (resC (vals L)) AS cS xs AN cN AK cK AL cL AR cR ∧ ∀ x ∈ G, w.heap.size ≤ x := by subst hn; exact Fold_ct A c L w hr hL hll hg
theorem snatL_ct (dip : Int) (w : World) : Calls Tryz.prog 29 #[.int .u32 dip] w fun e w' => e = .returned (.agg #[.int .i64 16, .int .i64 0, .int .i64 0, .int .i64 0, .int .i64 2, .int .u32 0, .int .i64 0, .int .i64 0, .slice none 0 0, .int .u32 dip, .int .u32 16843009, .bool true]) ∧ Fr w w' [] := by
 refine enterD (n := 5) Tryz.func29 rfl rfl (Nat.le_of_ble_eq_true rfl) ?_
 intro Q0 hN hret hret'
 have hC := Cx.start w
 refine WCs (fun K1 hK2 => ?_)
 refine WCg ?_
 refine WL.newM hC (fun b => .pointer (some ⟨b, 0, none⟩)) (.cells #[.int .i64 0, .int .i64 0, .int .i64 0, .int .i64 0, .int .i64 0, .int .u32 0, .int .i64 0, .int .i64 0, .slice none 0 0, .int .u32 0, .int .u32 0, .bool false] 45) 2 (fun _ => by kernel_rfl) (fun g3 w4 hb7 hF5 hC6 => ?_)
 refine WLd rfl (QXn (hK2 _ _ ?_))
 refine WCs (fun K8 hK9 => ?_)
 refine WCg (WLq 2 [(4, .agg #[.int .i64 16, .int .i64 0, .int .i64 0, .int .i64 0, .int .i64 2, .int .u32 0, .int .i64 0, .int .i64 0, .slice none 0 0, .int .u32 dip, .int .u32 16843009, .bool true]), (3, .int .u32 dip)] ?_)
 refine WLs (c' := #[.int .i64 16, .int .i64 0, .int .i64 0, .int .i64 0, .int .i64 2, .int .u32 0, .int .i64 0, .int .i64 0, .slice none 0 0, .int .u32 dip, .int .u32 16843009, .bool true]) hC6 0 45 g3 0 (.agg #[.int .i64 16, .int .i64 0, .int .i64 0, .int .i64 0, .int .i64 2, .int .u32 0, .int .i64 0, .int .i64 0, .slice none 0 0, .int .u32 dip, .int .u32 16843009, .bool true]) (by kernel_rfl) rfl (by kernel_rfl) (fun ac ab aa => ?_)
 refine WLd rfl (QXn (hK9 _ _ ?_))
 refine WC.ret ?_
 refine (hret' _ _ (.agg #[.int .i64 16, .int .i64 0, .int .i64 0, .int .i64 0, .int .i64 2, .int .u32 0, .int .i64 0, .int .i64 0, .slice none 0 0, .int .u32 dip, .int .u32 16843009, .bool true]) (fun a ha => ?_) ?_).1
 ·
  exact res_run ha ((ResR.cell rfl (run_ld (aa.get 0 rfl) rfl) ResR.nil)) rfl
 exact ⟨rfl, aa.fr⟩

theorem borrow_ct (dip now : Int) (w : World) : Calls Tryz.prog 30 #[.int .u32 dip, .int .i64 now] w fun e w' => e = .returned (.agg #[.int .i64 16, .int .i64 0, .int .i64 now, .int .i64 now, .int .i64 4, .int .u32 0, .int .i64 0, .int .i64 0, .slice none 0 0, .int .u32 dip, .int .u32 0, .bool false]) ∧ Fr w w' [] := by
 refine enterD (n := 9) Tryz.func30 rfl rfl (Nat.le_of_ble_eq_true rfl) ?_
 intro Q0 hN hret hret'
 have hC := Cx.start w
 refine WCs (fun K1 hK2 => ?_)
 refine WCg ?_
 refine WL.newM hC (fun b => .pointer (some ⟨b, 0, none⟩)) (.cells #[.int .i64 0, .int .i64 0, .int .i64 0, .int .i64 0, .int .i64 0, .int .u32 0, .int .i64 0, .int .i64 0, .slice none 0 0, .int .u32 0, .int .u32 0, .bool false] 45) 4 (fun _ => by kernel_rfl) (fun g3 w4 hb7 hF5 hC6 => ?_)
 refine WLd rfl (QXn (hK2 _ _ ?_))
 refine WCs (fun K8 hK9 => ?_)
 refine WCg (WLq 4 [(8, .agg #[.int .i64 16, .int .i64 0, .int .i64 now, .int .i64 now, .int .i64 4, .int .u32 0, .int .i64 0, .int .i64 0, .slice none 0 0, .int .u32 dip, .int .u32 0, .bool false]), (7, .int .u32 dip), (6, .int .i64 now), (5, .int .i64 now)] ?_)
 refine WLs (c' := #[.int .i64 16, .int .i64 0, .int .i64 now, .int .i64 now, .int .i64 4, .int .u32 0, .int .i64 0, .int .i64 0, .slice none 0 0, .int .u32 dip, .int .u32 0, .bool false]) hC6 0 45 g3 0 (.agg #[.int .i64 16, .int .i64 0, .int .i64 now, .int .i64 now, .int .i64 4, .int .u32 0, .int .i64 0, .int .i64 0, .slice none 0 0, .int .u32 dip, .int .u32 0, .bool false]) (by kernel_rfl) rfl (by kernel_rfl) (fun ac ab aa => ?_)
 refine WLd rfl (QXn (hK9 _ _ ?_))
 refine WC.ret ?_
 refine (hret' _ _ (.agg #[.int .i64 16, .int .i64 0, .int .i64 now, .int .i64 now, .int .i64 4, .int .u32 0, .int .i64 0, .int .i64 0, .slice none 0 0, .int .u32 dip, .int .u32 0, .bool false]) (fun a ha => ?_) ?_).1
 ·
  exact res_run ha ((ResR.cell rfl (run_ld (aa.get 0 rfl) rfl) ResR.nil)) rfl
 exact ⟨rfl, aa.fr⟩

set_option maxHeartbeats 1000000 in
theorem alive_ct  (w : World) (hg : Rd w 1 (encI .u8) (some ⟨0, 0, none⟩) dbTab) : Calls Tryz.prog 6 #[] w fun e w' => e = .returned (.bool true) ∧ Fr w w' [] := by
 refine enterD (n := 65) Tryz.func6 rfl rfl (Nat.le_of_ble_eq_true rfl) ?_
 intro Q0 hN hret hret'
 have hC := Cx.start w
 refine WCs (fun K1 hK2 => ?_)
 refine WCg (WLq 1 [(0, .bool false)] (WLd rfl (QXn (hK2 _ _ ?_))))
 refine WCs (fun K3 hK4 => ?_)
 refine WCg ?_
 refine WLc rfl rfl rfl rfl rfl (by kernel_rfl) (snatL_ct 167837697 w) ?_
 rintro _ w6 ⟨rfl, hF5⟩
 refine ⟨_, rfl, ?_⟩
 have hC7 := hC.call hF5
 refine WLc rfl rfl rfl rfl rfl (by kernel_rfl) (borrow_ct 167837697 5 w6) ?_
 rintro _ w9 ⟨rfl, hF8⟩
 refine ⟨_, rfl, ?_⟩
 have aK := hC7.call hF8
 refine WLc rfl rfl rfl rfl rfl (by kernel_rfl) (borrow_ct 167837697 30 w9) ?_
 rintro _ aV ⟨rfl, aL⟩
 refine ⟨_, rfl, ?_⟩
 have aM := aK.call aL
 refine WLc rfl rfl rfl rfl rfl (by kernel_rfl) (borrow_ct 167837697 40 aV) ?_
 rintro _ a8 ⟨rfl, aN⟩
 refine ⟨_, rfl, ?_⟩
 have aO := aM.call aN
 refine WL.newM aO (fun b => .slice (some ⟨b, 0, none⟩) 4 4) (.cells #[.int .i64 16, .int .i64 0, .int .i64 0, .int .i64 0, .int .i64 2, .int .u32 0, .int .i64 0, .int .i64 0, .slice none 0 0, .int .u32 167837697, .int .u32 16843009, .bool true, .int .i64 16, .int .i64 0, .int .i64 5, .int .i64 5, .int .i64 4, .int .u32 0, .int .i64 0, .int .i64 0, .slice none 0 0, .int .u32 167837697, .int .u32 0, .bool false, .int .i64 16, .int .i64 0, .int .i64 30, .int .i64 30, .int .i64 4, .int .u32 0, .int .i64 0, .int .i64 0, .slice none 0 0, .int .u32 167837697, .int .u32 0, .bool false, .int .i64 16, .int .i64 0, .int .i64 40, .int .i64 40, .int .i64 4, .int .u32 0, .int .i64 0, .int .i64 0, .slice none 0 0, .int .u32 167837697, .int .u32 0, .bool false] 45) 8 (fun _ => by kernel_rfl) (fun aW aX aY aZ an => ?_)
 refine WLc rfl rfl rfl rfl rfl (by kernel_rfl) (Fold_n (some ⟨aW, 0, none⟩) 4 4 aliveK aX (Rd.blk (an.get 0 rfl) cellsC_len rfl) rfl (aliveK_at _) (by decide) (Rd.fr hg an.fr)) ?_
 rintro _ a9 ⟨ad, ae, af, ag, ah, ai, aj, ak, al, aa, ab, a0, rfl, aP, am, aQ⟩
 have aR := an.callN aP aQ am.lt
 refine ⟨_, rfl, ?_⟩
 refine WLq 3 [(11, .slice aa ((resC (vals aliveK)).length) ab), (10, .agg #[.int .i64 ((foldC (vals aliveK)).epoch), .int .i64 ((foldC (vals aliveK)).now), .slice ad af.length ae, .slice ag ((foldC (vals aliveK)).snats.length) ah, .slice ai ((foldC (vals aliveK)).sick.length) aj, .slice ak ((foldC (vals aliveK)).leases.length) al]), (3, .tuple #[.agg #[.int .i64 ((foldC (vals aliveK)).epoch), .int .i64 ((foldC (vals aliveK)).now), .slice ad af.length ae, .slice ag ((foldC (vals aliveK)).snats.length) ah, .slice ai ((foldC (vals aliveK)).sick.length) aj, .slice ak ((foldC (vals aliveK)).leases.length) al], .slice aa ((resC (vals aliveK)).length) ab])] ?_
 refine WL.newM aR (fun b => .pointer (some ⟨b, 0, none⟩)) (.cells #[.int .i64 0, .int .i64 0, .slice none 0 0, .slice none 0 0, .slice none 0 0, .slice none 0 0] 31) 1 (fun _ => by kernel_rfl) (fun ax ba a1 ay ao => ?_)
 have aS := own_fr am.R ay (by simp)
 have aT := svcsIn.fr am.ins ay (by simp)
 refine WLs (c' := #[.int .i64 ((foldC (vals aliveK)).epoch), .int .i64 ((foldC (vals aliveK)).now), .slice ad af.length ae, .slice ag ((foldC (vals aliveK)).snats.length) ah, .slice ai ((foldC (vals aliveK)).sick.length) aj, .slice ak ((foldC (vals aliveK)).leases.length) al]) ao 1 31 ax 0 (.agg #[.int .i64 ((foldC (vals aliveK)).epoch), .int .i64 ((foldC (vals aliveK)).now), .slice ad af.length ae, .slice ag ((foldC (vals aliveK)).snats.length) ah, .slice ai ((foldC (vals aliveK)).sick.length) aj, .slice ak ((foldC (vals aliveK)).leases.length) al]) (by kernel_rfl) rfl (by kernel_rfl) (fun bb az ap => ?_)
 have ac := own_fr aS az (fun x_ hx_ => (ao.apartM 0 1 rfl rfl) x_ (am.sR x_ hx_))
 have a2 := svcsIn.fr aT az (ao.apartM 0 1 rfl rfl)
 refine WLq 1 [(2, .slice aa ((resC (vals aliveK)).length) ab)] (WLd rfl (QXn (hK4 _ _ ?_)))
 refine WCs (fun bc aU => ?_)
 refine WCg (WLq 4 [(15, .bool (((resC (vals aliveK)).length : Int) == 4)), (14, .bool (((resC (vals aliveK)).length : Int) == 4)), (13, .int .i64 ((resC (vals aliveK)).length : Int)), (12, .slice aa ((resC (vals aliveK)).length) ab)] ?_)
 refine WL.know 15 (.bool (((resC (vals aliveK)).length : Int) == 4)) (.bool true) rfl (congrArg Value.bool (by rw [res_len]; rfl)) ?_
 refine WLq 1 [(16, .pointer (some ⟨ax, 0, none⟩))] ?_
 refine WLo 3 (.pointer (some ⟨ax, 0, none⟩)) (.int .i64 ((foldC (vals aliveK)).epoch)) 17 (run_ld (ap.get 1 rfl) rfl) ?_
 refine WLq 3 [(20, .bool (((foldC (vals aliveK)).epoch) == 4)), (19, .bool (((foldC (vals aliveK)).epoch) == 4)), (18, .bool (((foldC (vals aliveK)).epoch) == 4))] ?_
 refine WL.know 20 (.bool (((foldC (vals aliveK)).epoch) == 4)) (.bool true) rfl (congrArg Value.bool (by rw [epoch_fold]; rfl)) ?_
 refine WLq 1 [(21, .pointer (some ⟨ax, 1, none⟩))] ?_
 refine WLo 3 (.pointer (some ⟨ax, 1, none⟩)) (.int .i64 ((foldC (vals aliveK)).now)) 22 (run_ld (ap.get 1 rfl) rfl) ?_
 refine WLq 3 [(25, .bool (((foldC (vals aliveK)).now) == 40)), (24, .bool (((foldC (vals aliveK)).now) == 40)), (23, .bool (((foldC (vals aliveK)).now) == 40))] ?_
 refine WL.know 25 (.bool (((foldC (vals aliveK)).now) == 40)) (.bool true) rfl (congrArg Value.bool (by rw [alive_now]; rfl)) ?_
 refine WLq 1 [(26, .slice aa ((resC (vals aliveK)).length) ab)] ?_
 have a3 := own_count cellsR_len (by decide) ac
 obtain ⟨aA, aq⟩ := get_some (xs := (resC (vals aliveK))) (i := 1) (by first | omega | (have q_ := res_len (vals aliveK); have q2_ : (vals aliveK).length = 4 := rfl; omega))
 obtain ⟨b55, aB⟩ := own_addr (by decide) cellsR_len ac aq
 refine WLi aa ((resC (vals aliveK)).length) ab 27 .i64 1 b55 0 1 5 (by kernel_rfl) aB (by first | omega | (have q_ := res_len (vals aliveK); have q2_ : (vals aliveK).length = 4 := rfl; omega)) (by first | omega | (have q_ := res_len (vals aliveK); have q2_ : (vals aliveK).length = 4 := rfl; omega)) 5 (by first | (simp; done) | omega) ?_
 refine WLq 2 [(29, .pointer (some ⟨b55, 7, none⟩)), (28, .pointer (some ⟨b55, 6, none⟩))] ?_
 refine WLo 3 (.pointer (some ⟨b55, 7, none⟩)) (.int .i64 aA.lease.first) 30 (run_load1 rfl (by simpa [Nat.add_assoc] using Rd.cell (own_rd ac cellsR_len (by decide)) aB aq 2 _ rfl)) ?_
 refine WLq 3 [(33, .bool (aA.lease.first == 1024)), (32, .bool (aA.lease.first == 1024)), (31, .bool (aA.lease.first == 1024))] ?_
 refine WL.know 33 (.bool (aA.lease.first == 1024)) (.bool true) rfl (congrArg Value.bool (by have q_ := alive_at aq; simp at q_; rw [← q_.1]; rfl)) ?_
 refine WLq 1 [(34, .slice aa ((resC (vals aliveK)).length) ab)] ?_
 have a4 := own_count cellsR_len (by decide) ac
 obtain ⟨aC, ar⟩ := get_some (xs := (resC (vals aliveK))) (i := 1) (by first | omega | (have q_ := res_len (vals aliveK); have q2_ : (vals aliveK).length = 4 := rfl; omega))
 obtain ⟨b60, aD⟩ := own_addr (by decide) cellsR_len ac ar
 refine WLi aa ((resC (vals aliveK)).length) ab 35 .i64 1 b60 0 1 5 (by kernel_rfl) aD (by first | omega | (have q_ := res_len (vals aliveK); have q2_ : (vals aliveK).length = 4 := rfl; omega)) (by first | omega | (have q_ := res_len (vals aliveK); have q2_ : (vals aliveK).length = 4 := rfl; omega)) 5 (by first | (simp; done) | omega) ?_
 refine WLq 2 [(37, .pointer (some ⟨b60, 9, none⟩)), (36, .pointer (some ⟨b60, 6, none⟩))] ?_
 refine WLo 3 (.pointer (some ⟨b60, 9, none⟩)) (.int .i64 aC.lease.exp) 38 (run_load1 rfl (by simpa [Nat.add_assoc] using Rd.cell (own_rd ac cellsR_len (by decide)) aD ar 4 _ rfl)) ?_
 refine WLq 3 [(41, .bool (aC.lease.exp == 69)), (40, .bool (aC.lease.exp == 69)), (39, .bool (aC.lease.exp == 69))] ?_
 refine WL.know 41 (.bool (aC.lease.exp == 69)) (.bool true) rfl (congrArg Value.bool (by have q_ := alive_at ar; simp at q_; rw [← q_.2]; rfl)) ?_
 refine WLq 1 [(42, .slice aa ((resC (vals aliveK)).length) ab)] ?_
 have a5 := own_count cellsR_len (by decide) ac
 obtain ⟨aE, au⟩ := get_some (xs := (resC (vals aliveK))) (i := 2) (by first | omega | (have q_ := res_len (vals aliveK); have q2_ : (vals aliveK).length = 4 := rfl; omega))
 obtain ⟨b65, aF⟩ := own_addr (by decide) cellsR_len ac au
 refine WLi aa ((resC (vals aliveK)).length) ab 43 .i64 2 b65 0 2 5 (by kernel_rfl) aF (by first | omega | (have q_ := res_len (vals aliveK); have q2_ : (vals aliveK).length = 4 := rfl; omega)) (by first | omega | (have q_ := res_len (vals aliveK); have q2_ : (vals aliveK).length = 4 := rfl; omega)) 10 (by first | (simp; done) | omega) ?_
 refine WLq 2 [(45, .pointer (some ⟨b65, 12, none⟩)), (44, .pointer (some ⟨b65, 11, none⟩))] ?_
 refine WLo 3 (.pointer (some ⟨b65, 12, none⟩)) (.int .i64 aE.lease.first) 46 (run_load1 rfl (by simpa [Nat.add_assoc] using Rd.cell (own_rd ac cellsR_len (by decide)) aF au 2 _ rfl)) ?_
 refine WLq 3 [(49, .bool (aE.lease.first == 1032)), (48, .bool (aE.lease.first == 1032)), (47, .bool (aE.lease.first == 1032))] ?_
 refine WL.know 49 (.bool (aE.lease.first == 1032)) (.bool true) rfl (congrArg Value.bool (by have q_ := alive_at au; simp at q_; rw [← q_.1]; rfl)) ?_
 refine WLq 1 [(50, .slice aa ((resC (vals aliveK)).length) ab)] ?_
 have a6 := own_count cellsR_len (by decide) ac
 obtain ⟨aG, av⟩ := get_some (xs := (resC (vals aliveK))) (i := 3) (by first | omega | (have q_ := res_len (vals aliveK); have q2_ : (vals aliveK).length = 4 := rfl; omega))
 obtain ⟨b70, aH⟩ := own_addr (by decide) cellsR_len ac av
 refine WLi aa ((resC (vals aliveK)).length) ab 51 .i64 3 b70 0 3 5 (by kernel_rfl) aH (by first | omega | (have q_ := res_len (vals aliveK); have q2_ : (vals aliveK).length = 4 := rfl; omega)) (by first | omega | (have q_ := res_len (vals aliveK); have q2_ : (vals aliveK).length = 4 := rfl; omega)) 15 (by first | (simp; done) | omega) ?_
 refine WLq 2 [(53, .pointer (some ⟨b70, 17, none⟩)), (52, .pointer (some ⟨b70, 16, none⟩))] ?_
 refine WLo 3 (.pointer (some ⟨b70, 17, none⟩)) (.int .i64 aG.lease.first) 54 (run_load1 rfl (by simpa [Nat.add_assoc] using Rd.cell (own_rd ac cellsR_len (by decide)) aH av 2 _ rfl)) ?_
 refine WLq 3 [(57, .bool (aG.lease.first == 1024)), (56, .bool (aG.lease.first == 1024)), (55, .bool (aG.lease.first == 1024))] ?_
 refine WL.know 57 (.bool (aG.lease.first == 1024)) (.bool true) rfl (congrArg Value.bool (by have q_ := alive_at av; simp at q_; rw [← q_.1]; rfl)) ?_
 refine WLq 1 [(58, .slice aa ((resC (vals aliveK)).length) ab)] ?_
 have a7 := own_count cellsR_len (by decide) ac
 obtain ⟨aI, aw⟩ := get_some (xs := (resC (vals aliveK))) (i := 3) (by first | omega | (have q_ := res_len (vals aliveK); have q2_ : (vals aliveK).length = 4 := rfl; omega))
 obtain ⟨b75, aJ⟩ := own_addr (by decide) cellsR_len ac aw
 refine WLi aa ((resC (vals aliveK)).length) ab 59 .i64 3 b75 0 3 5 (by kernel_rfl) aJ (by first | omega | (have q_ := res_len (vals aliveK); have q2_ : (vals aliveK).length = 4 := rfl; omega)) (by first | omega | (have q_ := res_len (vals aliveK); have q2_ : (vals aliveK).length = 4 := rfl; omega)) 15 (by first | (simp; done) | omega) ?_
 refine WLq 2 [(61, .pointer (some ⟨b75, 19, none⟩)), (60, .pointer (some ⟨b75, 16, none⟩))] ?_
 refine WLo 3 (.pointer (some ⟨b75, 19, none⟩)) (.int .i64 aI.lease.exp) 62 (run_load1 rfl (by simpa [Nat.add_assoc] using Rd.cell (own_rd ac cellsR_len (by decide)) aJ aw 4 _ rfl)) ?_
 refine WLq 3 [(0, .bool (aI.lease.exp == 104)), (64, .bool (aI.lease.exp == 104)), (63, .bool (aI.lease.exp == 104))] (WLd rfl (QXn (aU _ _ ?_)))
 refine WC.ret ?_
 refine (hret _ _ _ rfl ?_).1
 exact ⟨congrArg (fun b_ => Ending.returned (Value.bool b_)) (show ((aI.lease.exp == 104)) = true from by have q_ := alive_at aw; simp at q_; rw [← q_.2]; rfl), ap.fr⟩

theorem large_ct (A : Option Addr) (c : Nat) (L : List Cmd) (w : World) (hr : Rd w 12 cellsC A L) (hL : ∀ m ∈ L, cmdAt w m) (hlim : totE L ≤ 1099511627776) : Calls Tryz.prog 7 #[.slice A L.length c] w fun e w' => e = .returned (.bool (decide (300 < bigL (vals L)))) ∧ Fr w w' [] := by
 refine enterD (n := 23) Tryz.func7 rfl rfl (Nat.le_of_ble_eq_true rfl) ?_
 intro Q0 hN hret hret'
 have htl_ := totE_len L
 have hC := Cx.start w
 refine WCs (fun K1 hK2 => ?_)
 refine WCg (WLq 1 [(2, .bool false)] (WLd rfl (QXn (hK2 _ _ ?_))))
 refine WCs (fun K3 hK4 => ?_)
 refine WCg (WLq 1 [(3, .int .i64 0)] (WLd rfl (QXn (hK4 _ _ ?_))))
 refine WCs (fun K5 hK6 => ?_)
 refine WCs (fun K7 hK8 => ?_)
 refine WCg (WLq 3 [(8, .int .i64 0), (7, .int .i64 (L.length : Int)), (6, .slice A L.length c)] (WLd rfl (QXn (hK8 _ _ ?_))))
 refine WC.block ?_
 refine WC.loop (fun m_ E_ w_ => ∃ (i : Nat), m_ = L.length - i ∧ E_ = [(0, .slice A L.length c), (2, .bool false), (3, .int .i64 (bigL (vals (L.take i)) : Int)), (6, .slice A L.length c), (7, .int .i64 (L.length : Int)), (8, .int .i64 (i : Int))] ∧ Cx w [] w_ [] [] ∧ (i ≤ L.length)) ⟨_, _, ⟨0, rfl, rfl, hC, Nat.zero_le _⟩, sub_of ⟨rfl, rfl, rfl, rfl, rfl, rfl, trivial⟩⟩ (fun m12 E_ ay K9 ak al => ?_)
 obtain ⟨i, rfl, rfl, ab, hi⟩ := al
 have hbt_ := bigL_take L i
 have hbt2_ := bigL_tot L
 refine WCs (fun az af => ?_)
 refine WCg (WLq 1 [(9, .bool (decide ((i : Int) < (L.length : Int))))] (WLd rfl (QXn (af _ _ ?_))))
 refine WCs (fun aA ag => ?_)
 refine WCa 9 (decide ((i : Int) < (L.length : Int))) rfl (fun ac => ?_) (fun ac => ?_)
 ·
  have au : (i : Int) < (L.length : Int) := by have q_ := of_decide_eq_true ac; omega
  refine WCt rfl ?_
  refine WC.skip ?_
  refine QXn (ag _ _ ?_)
  refine WCs (fun aB am => ?_)
  refine WC.block ?_
  refine WCs (fun aC an => ?_)
  refine WCg ?_
  obtain ⟨aa, ad⟩ := get_some (xs := L) (i := i) (by omega)
  obtain ⟨b26, o28, ao, ap⟩ := hr.at_ _ _ ad
  have ae := hL _ (List.mem_of_getElem? ad)
  have hlm_ := ae.lim
  refine WLi A L.length c 10 .i64 (i : Int) b26 o28 i 12 (by kernel_rfl) ao (by omega) (by omega) (o28 + i * 12) (by first | (simp; done) | omega) ?_
  refine WLo 45 (.pointer (some ⟨b26, o28 + i * 12, none⟩)) (.agg #[.int .i64 aa.v.node, .int .i64 aa.v.boot, .int .i64 aa.v.seq, .int .i64 aa.v.time, .int .i64 aa.v.kind, .int .u32 aa.v.svip, .int .i64 aa.v.sproto, .int .i64 aa.v.sport, .slice aa.a aa.v.ends.length aa.c, .int .u32 aa.v.dip, .int .u32 aa.v.vip, .bool aa.v.up]) 11 (run_rdN (l := [.int .i64 aa.v.node, .int .i64 aa.v.boot, .int .i64 aa.v.seq, .int .i64 aa.v.time, .int .i64 aa.v.kind, .int .u32 aa.v.svip, .int .i64 aa.v.sproto, .int .i64 aa.v.sport, .slice aa.a aa.v.ends.length aa.c, .int .u32 aa.v.dip, .int .u32 aa.v.vip, .bool aa.v.up]) rfl rfl (fun j u hu => by have hq_ := ab.fr.cell (ap j u hu) (by simp); simpa [Nat.add_assoc] using hq_)) ?_
  refine WL.newM ab (fun b => .pointer (some ⟨b, 0, none⟩)) (.cells #[.int .i64 0, .int .i64 0, .int .i64 0, .int .i64 0, .int .i64 0, .int .u32 0, .int .i64 0, .int .i64 0, .slice none 0 0, .int .u32 0, .int .u32 0, .bool false] 45) 5 (fun _ => by kernel_rfl) (fun aj aD av aw aq => ?_)
  refine WLs (c' := #[.int .i64 aa.v.node, .int .i64 aa.v.boot, .int .i64 aa.v.seq, .int .i64 aa.v.time, .int .i64 aa.v.kind, .int .u32 aa.v.svip, .int .i64 aa.v.sproto, .int .i64 aa.v.sport, .slice aa.a aa.v.ends.length aa.c, .int .u32 aa.v.dip, .int .u32 aa.v.vip, .bool aa.v.up]) aq 0 45 aj 0 (.agg #[.int .i64 aa.v.node, .int .i64 aa.v.boot, .int .i64 aa.v.seq, .int .i64 aa.v.time, .int .i64 aa.v.kind, .int .u32 aa.v.svip, .int .i64 aa.v.sproto, .int .i64 aa.v.sport, .slice aa.a aa.v.ends.length aa.c, .int .u32 aa.v.dip, .int .u32 aa.v.vip, .bool aa.v.up]) (by kernel_rfl) rfl (by kernel_rfl) (fun aE ax ah => ?_)
  refine WLd rfl (QXn (an _ _ ?_))
  refine WCg (WLq 3 [(14, .pointer (some ⟨aj, 8, none⟩)), (13, .pointer (some ⟨aj, 5, none⟩)), (12, .int .i64 (bigL (vals (L.take i)) : Int))] ?_)
  refine WLo 41 (.pointer (some ⟨aj, 8, none⟩)) (.slice aa.a aa.v.ends.length aa.c) 15 (run_ld (ah.get 0 rfl) rfl) ?_
  refine WLq 2 [(17, .int .i64 (IntKind.i64.wrap (Int.tdiv (aa.v.ends.length : Int) 4))), (16, .int .i64 (aa.v.ends.length : Int))] ?_
  refine WLt (show (.int .i64 (IntKind.i64.wrap (Int.tdiv (aa.v.ends.length : Int) 4)) : Value) = .int .i64 ((aa.v.ends.length / 4 : Nat) : Int) from by rw [Int.tdiv_eq_ediv_of_nonneg (by omega), wrap_in_i64 _ (by omega) (by omega)]; congr 1) ?_
  refine WLq 1 [(18, .int .i64 (IntKind.i64.wrap (1 + ((aa.v.ends.length / 4 : Nat) : Int))))] ?_
  refine WLt (show (.int .i64 (IntKind.i64.wrap (1 + ((aa.v.ends.length / 4 : Nat) : Int))) : Value) = .int .i64 (1 + ((aa.v.ends.length / 4 : Nat) : Int)) from by rw [wrap_in_i64 (1 + ((aa.v.ends.length / 4 : Nat) : Int)) (by omega) (by omega)]) ?_
  have hbs_ := bigL_step ad
  have hbt3_ := bigL_take L (i + 1)
  refine WLq 1 [(19, .int .i64 (IntKind.i64.wrap ((bigL (vals (L.take i)) : Int) + (1 + ((aa.v.ends.length / 4 : Nat) : Int)))))] ?_
  refine WLt (show (.int .i64 (IntKind.i64.wrap ((bigL (vals (L.take i)) : Int) + (1 + ((aa.v.ends.length / 4 : Nat) : Int)))) : Value) = .int .i64 (bigL (vals (L.take (i + 1))) : Int) from by rw [hbs_, wrap_in_i64 _ (by omega) (by omega)]; congr 1) ?_
  refine WLq 1 [(3, .int .i64 (bigL (vals (L.take (i + 1))) : Int))] ?_
  refine WLd rfl ?_
  refine QXb ?_
  refine QXn (am _ _ ?_)
  refine WCg (WLq 1 [(20, .int .i64 (IntKind.i64.wrap ((i : Int) + 1)))] ?_)
  refine WLt (show (.int .i64 (IntKind.i64.wrap ((i : Int) + 1)) : Value) = .int .i64 ((i : Int) + 1) from by rw [wrap_in_i64 ((i : Int) + 1) (by omega) (by omega)]) ?_
  refine WLq 1 [(8, .int .i64 ((i : Int) + 1))] ?_
  refine WLd rfl ?_
  refine QXn ?_
  have ar := ah.pick [] [] rfl rfl
  refine fun a_ ha_ => ak _ _ _ ?_ ⟨i + 1, rfl, rfl, ar, by omega⟩ a_ (ha_.weaken (sub_of ⟨rfl, rfl, rfl, rfl, rfl, rfl, trivial⟩))
  omega
 ·
  have au : (L.length : Int) ≤ (i : Int) := by have q_ := of_decide_eq_false ac; omega
  refine WCf rfl ?_
  refine WC.exit ?_
  refine QXe ?_
  refine QXe ?_
  refine QX.block_hit ?_
  refine QXn (hK6 _ _ ?_)
  refine WCs (fun aF ai => ?_)
  refine WCg (WLq 3 [(2, .bool (decide ((bigL (vals (L.take i)) : Int) > 300))), (22, .bool (decide ((bigL (vals (L.take i)) : Int) > 300))), (21, .int .i64 (bigL (vals (L.take i)) : Int))] (WLd rfl (QXn (ai _ _ ?_))))
  refine WC.ret ?_
  refine (hret _ _ _ rfl ?_).1
  clear hN hret hret' ai ag af hK8 hK6 hK4 hK2
  have hie_ : i = L.length := by omega
  exact ⟨congrArg (fun b_ => Ending.returned (Value.bool b_)) (by rw [hie_, List.take_length, Bool.eq_iff_iff, decide_eq_true_eq, decide_eq_true_eq]; omega), ab.fr⟩

end Go.Proofs.YtfligklljkcbfaaGreatDoor
