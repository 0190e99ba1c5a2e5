/- Contracts of functions of the program, each proved by a walk through its code; conditions stand in the statements. -/
import Derived.Test.YtfligklljkcbfaaDoorStQ16
namespace Go.Proofs.YtfligklljkcbfaaDoor
set_option linter.unusedSimpArgs false
set_option linter.unusedVariables false
set_option linter.unusedSectionVars false
open Go Go.RowKit Go.Tw
set_option linter.unusedVariables false
set_option maxRecDepth 20000
theorem int_bne (a b : Int) : (a != b) = !decide (a = b) := by rw [Bool.eq_iff_iff]; simp
theorem lease_beq (a b : Lease) : (a.vip == b.vip && (a.first == b.first && (a.dip == b.dip && (a.exp == b.exp && true)))) = decide (a = b) := by
  obtain ⟨v, f, d, x⟩ := a; obtain ⟨v', f', d', x'⟩ := b
  rw [Bool.eq_iff_iff]; simp
theorem snat_beq (a b : SnatV) : (a.dip == b.dip && (a.vip == b.vip && true)) = decide (a = b) := by
  obtain ⟨v, f⟩ := a; obtain ⟨v', f'⟩ := b
  rw [Bool.eq_iff_iff]; simp
section
variable {α : Type} [DecidableEq α] {xs ys : List α} {i : Nat} {a b : α}
theorem eqs_snoc (h : xs.take i = ys.take i) (ha : xs[i]? = some a) (hb : ys[i]? = some b) (he : (!decide (a = b)) = false) : xs.take (i + 1) = ys.take (i + 1) := by
  have e : a = b := by simpa using he
  subst e
  obtain ⟨hi, h1⟩ := List.getElem?_eq_some_iff.1 ha
  obtain ⟨hj, h2⟩ := List.getElem?_eq_some_iff.1 hb
  rw [List.take_succ_eq_append_getElem hi, List.take_succ_eq_append_getElem hj, h, h1, h2]
theorem eqs_miss (ha : xs[i]? = some a) (hb : ys[i]? = some b) (he : (!decide (a = b)) = true) : decide (xs = ys) = false := by
  refine decide_eq_false fun e => ?_
  subst e
  rw [ha] at hb; cases hb; simp at he
end
def bigN (m : CmdV) : Nat := 1 + m.ends.length / 4
def bigL (cs : List CmdV) : Nat := (cs.map bigN).sum
def totE (L : List Cmd) : Nat := (L.map fun m => 12 + 3 * m.v.ends.length).sum
theorem epoch_apply (C : CfgV) (c : CmdV) : (applyC C c).epoch = C.epoch + 1 := by
  unfold applyC svcC snatC sickC leaseC
  repeat' split
  all_goals rfl
theorem epoch_from (C : CfgV) (cs : List CmdV) : (foldFrom C cs).epoch = C.epoch + cs.length := by
  induction cs generalizing C with
  | nil => simp [foldFrom]
  | cons c r ih => rw [foldFrom, ih, epoch_apply, List.length_cons]; omega
theorem epoch_fold (cs : List CmdV) : (foldC cs).epoch = (cs.length : Int) := by unfold foldC; rw [epoch_from]; show 0 + _ = _; omega
theorem res_len (cs : List CmdV) : (resC cs).length = cs.length := resFrom_len _ _
theorem cmd_nil {w : World} {v : CmdV} (hw : wfC v) (he : v.ends = []) : cmdAt w ⟨v, none, 0⟩ := ⟨by show Rd w 3 cellsE none v.ends; rw [he]; exact Rd.nil _ _ _ _, hw, by show v.ends.length ≤ _; rw [he]; exact Nat.zero_le _, by show v.ends.length ≤ 0; rw [he]; exact Nat.le_refl _⟩
def snatK (dip : Int) : CmdV := ⟨16, 0, 0, 0, 2, 0, 0, 0, [], dip, 16843009, true⟩
def borrowK (dip now : Int) : CmdV := ⟨16, 0, now, now, 4, 0, 0, 0, [], dip, 0, false⟩
def aliveK : List Cmd := [⟨snatK 167837697, none, 0⟩, ⟨borrowK 167837697 5, none, 0⟩, ⟨borrowK 167837697 30, none, 0⟩, ⟨borrowK 167837697 40, none, 0⟩]
theorem aliveK_at (w : World) : ∀ m ∈ aliveK, cmdAt w m := by
  intro m hm
  simp only [aliveK, List.mem_cons, List.not_mem_nil, or_false] at hm
  rcases hm with rfl | rfl | rfl | rfl <;> exact cmd_nil ⟨⟨by decide, by decide⟩, ⟨by decide, by decide⟩, ⟨by decide, by decide⟩, ⟨by decide, by decide⟩, ⟨by decide, by decide⟩, ⟨by decide, by decide⟩, ⟨by decide, by decide⟩, ⟨by decide, by decide⟩, ⟨by decide, by decide⟩, ⟨by decide, by decide⟩, fun _ h => (nomatch h)⟩ rfl
theorem alive_now : (foldC (vals aliveK)).now = 40 := by decide +kernel
theorem alive_res : (resC (vals aliveK)).map (fun r => (r.lease.first, r.lease.exp)) = [(0, 0), (1024, 69), (1032, 94), (1024, 104)] := by decide +kernel
theorem alive_at {k : Nat} {r : ResV} (h : (resC (vals aliveK))[k]? = some r) : ([(0, 0), (1024, 69), (1032, 94), (1024, 104)] : List (Int × Int))[k]? = some (r.lease.first, r.lease.exp) := by
  rw [← alive_res, List.getElem?_map, h]; rfl
theorem Fold_n (A : Option Addr) (n c : Nat) (L : List Cmd) (w : World) (hr : Rd w 12 cellsC A L) (hn : L.length = n) (hL : ∀ m ∈ L, cmdAt w m) (hll : n ≤ 10000000000) (hg : Rd w 1 (encI .u8) (some ⟨0, 0, none⟩) dbTab) : Calls Tryd.prog 9 #[.slice A n c] w fun e w' => ∃ (AS : Option Addr) (cS : Nat) (xs : List Svc) (AN : Option Addr) (cN : Nat) (AK : Option Addr) (cK : Nat) (AL : Option Addr) (cL : Nat) (AR : Option Addr) (cR : Nat) (G : List Nat), e = .returned (.tuple #[.agg #[.int .i64 ((foldC (vals L)).epoch), .int .i64 ((foldC (vals L)).now), .slice AS xs.length cS, .slice AN ((foldC (vals L)).snats.length) cN, .slice AK ((foldC (vals L)).sick.length) cK, .slice AL ((foldC (vals L)).leases.length) cL], .slice AR ((resC (vals L)).length) cR]) ∧ Fr w w' [] ∧ FoldR w' G (foldC (vals L)) (resC (vals L)) AS cS xs AN cN AK cK AL cL AR cR ∧ ∀ x ∈ G, w.heap.size ≤ x := by subst hn; exact Fold_ct A c L w hr hL hll hg
theorem snatL_ct (dip : Int) (w : World) : Calls Tryd.prog 21 #[.int .u32 dip] w fun e w' => e = .returned (.agg #[.int .i64 16, .int .i64 0, .int .i64 0, .int .i64 0, .int .i64 2, .int .u32 0, .int .i64 0, .int .i64 0, .slice none 0 0, .int .u32 dip, .int .u32 16843009, .bool true]) ∧ Fr w w' [] := by
 refine enterD (n := 5) Tryd.func21 rfl rfl (Nat.le_of_ble_eq_true rfl) ?_
 intro Q0 hN hret hret'
 have hC := Cx.start w
 refine WCs (fun K1 hK2 => ?_)
 refine WCg ?_
 refine WL.newM hC (fun b => .pointer (some ⟨b, 0, none⟩)) (.cells #[.int .i64 0, .int .i64 0, .int .i64 0, .int .i64 0, .int .i64 0, .int .u32 0, .int .i64 0, .int .i64 0, .slice none 0 0, .int .u32 0, .int .u32 0, .bool false] 56) 2 (fun _ => by kernel_rfl) (fun g3 w4 hb7 hF5 hC6 => ?_)
 refine WLd rfl (QXn (hK2 _ _ ?_))
 refine WCs (fun K8 hK9 => ?_)
 refine WCg (WLr 2 [(4, .agg #[.int .i64 16, .int .i64 0, .int .i64 0, .int .i64 0, .int .i64 2, .int .u32 0, .int .i64 0, .int .i64 0, .slice none 0 0, .int .u32 dip, .int .u32 16843009, .bool true]), (3, .int .u32 dip)] (fun _ => by kernel_rfl) ?_)
 refine WLs (c' := #[.int .i64 16, .int .i64 0, .int .i64 0, .int .i64 0, .int .i64 2, .int .u32 0, .int .i64 0, .int .i64 0, .slice none 0 0, .int .u32 dip, .int .u32 16843009, .bool true]) hC6 0 56 g3 0 (.agg #[.int .i64 16, .int .i64 0, .int .i64 0, .int .i64 0, .int .i64 2, .int .u32 0, .int .i64 0, .int .i64 0, .slice none 0 0, .int .u32 dip, .int .u32 16843009, .bool true]) (by kernel_rfl) rfl (by kernel_rfl) (fun w10 hF12 hC13 => ?_)
 refine WLd rfl (QXn (hK9 _ _ ?_))
 refine WC.ret ?_
 refine (hret' _ _ (.agg #[.int .i64 16, .int .i64 0, .int .i64 0, .int .i64 0, .int .i64 2, .int .u32 0, .int .i64 0, .int .i64 0, .slice none 0 0, .int .u32 dip, .int .u32 16843009, .bool true]) (fun a ha => ?_) ?_).1
 ·
  exact res_run ha ((ResR.cell rfl (run_ld (hC13.get 0 rfl) rfl) ResR.nil)) rfl
 exact ⟨rfl, hC13.fr⟩

theorem borrow_ct (dip now : Int) (w : World) : Calls Tryd.prog 22 #[.int .u32 dip, .int .i64 now] w fun e w' => e = .returned (.agg #[.int .i64 16, .int .i64 0, .int .i64 now, .int .i64 now, .int .i64 4, .int .u32 0, .int .i64 0, .int .i64 0, .slice none 0 0, .int .u32 dip, .int .u32 0, .bool false]) ∧ Fr w w' [] := by
 refine enterD (n := 9) Tryd.func22 rfl rfl (Nat.le_of_ble_eq_true rfl) ?_
 intro Q0 hN hret hret'
 have hC := Cx.start w
 refine WCs (fun K1 hK2 => ?_)
 refine WCg ?_
 refine WL.newM hC (fun b => .pointer (some ⟨b, 0, none⟩)) (.cells #[.int .i64 0, .int .i64 0, .int .i64 0, .int .i64 0, .int .i64 0, .int .u32 0, .int .i64 0, .int .i64 0, .slice none 0 0, .int .u32 0, .int .u32 0, .bool false] 56) 4 (fun _ => by kernel_rfl) (fun g3 w4 hb7 hF5 hC6 => ?_)
 refine WLd rfl (QXn (hK2 _ _ ?_))
 refine WCs (fun K8 hK9 => ?_)
 refine WCg (WLr 4 [(8, .agg #[.int .i64 16, .int .i64 0, .int .i64 now, .int .i64 now, .int .i64 4, .int .u32 0, .int .i64 0, .int .i64 0, .slice none 0 0, .int .u32 dip, .int .u32 0, .bool false]), (7, .int .u32 dip), (6, .int .i64 now), (5, .int .i64 now)] (fun _ => by kernel_rfl) ?_)
 refine WLs (c' := #[.int .i64 16, .int .i64 0, .int .i64 now, .int .i64 now, .int .i64 4, .int .u32 0, .int .i64 0, .int .i64 0, .slice none 0 0, .int .u32 dip, .int .u32 0, .bool false]) hC6 0 56 g3 0 (.agg #[.int .i64 16, .int .i64 0, .int .i64 now, .int .i64 now, .int .i64 4, .int .u32 0, .int .i64 0, .int .i64 0, .slice none 0 0, .int .u32 dip, .int .u32 0, .bool false]) (by kernel_rfl) rfl (by kernel_rfl) (fun w10 hF12 hC13 => ?_)
 refine WLd rfl (QXn (hK9 _ _ ?_))
 refine WC.ret ?_
 refine (hret' _ _ (.agg #[.int .i64 16, .int .i64 0, .int .i64 now, .int .i64 now, .int .i64 4, .int .u32 0, .int .i64 0, .int .i64 0, .slice none 0 0, .int .u32 dip, .int .u32 0, .bool false]) (fun a ha => ?_) ?_).1
 ·
  exact res_run ha ((ResR.cell rfl (run_ld (hC13.get 0 rfl) rfl) ResR.nil)) rfl
 exact ⟨rfl, hC13.fr⟩

set_option maxHeartbeats 1000000 in
theorem alive_ct  (w : World) (hg : Rd w 1 (encI .u8) (some ⟨0, 0, none⟩) dbTab) : Calls Tryd.prog 7 #[] w fun e w' => e = .returned (.bool true) ∧ Fr w w' [] := by
 refine enterD (n := 65) Tryd.func7 rfl rfl (Nat.le_of_ble_eq_true rfl) ?_
 intro Q0 hN hret hret'
 have hC := Cx.start w
 refine WCs (fun K1 hK2 => ?_)
 refine WCg (WLr 1 [(0, .bool false)] (fun _ => by kernel_rfl) (WLd rfl (QXn (hK2 _ _ ?_))))
 refine WCs (fun K3 hK4 => ?_)
 refine WCg ?_
 refine WLc rfl rfl rfl rfl rfl (by kernel_rfl) (snatL_ct 167837697 w) ?_
 rintro _ w6 ⟨rfl, hF5⟩
 refine ⟨_, rfl, ?_⟩
 have hC7 := hC.call hF5
 refine WLc rfl rfl rfl rfl rfl (by kernel_rfl) (borrow_ct 167837697 5 w6) ?_
 rintro _ w9 ⟨rfl, hF8⟩
 refine ⟨_, rfl, ?_⟩
 have hC10 := hC7.call hF8
 refine WLc rfl rfl rfl rfl rfl (by kernel_rfl) (borrow_ct 167837697 30 w9) ?_
 rintro _ w12 ⟨rfl, hF11⟩
 refine ⟨_, rfl, ?_⟩
 have hC13 := hC10.call hF11
 refine WLc rfl rfl rfl rfl rfl (by kernel_rfl) (borrow_ct 167837697 40 w12) ?_
 rintro _ w15 ⟨rfl, hF14⟩
 refine ⟨_, rfl, ?_⟩
 have hC16 := hC13.call hF14
 refine WL.newM hC16 (fun b => .slice (some ⟨b, 0, none⟩) 4 4) (.cells #[.int .i64 16, .int .i64 0, .int .i64 0, .int .i64 0, .int .i64 2, .int .u32 0, .int .i64 0, .int .i64 0, .slice none 0 0, .int .u32 167837697, .int .u32 16843009, .bool true, .int .i64 16, .int .i64 0, .int .i64 5, .int .i64 5, .int .i64 4, .int .u32 0, .int .i64 0, .int .i64 0, .slice none 0 0, .int .u32 167837697, .int .u32 0, .bool false, .int .i64 16, .int .i64 0, .int .i64 30, .int .i64 30, .int .i64 4, .int .u32 0, .int .i64 0, .int .i64 0, .slice none 0 0, .int .u32 167837697, .int .u32 0, .bool false, .int .i64 16, .int .i64 0, .int .i64 40, .int .i64 40, .int .i64 4, .int .u32 0, .int .i64 0, .int .i64 0, .slice none 0 0, .int .u32 167837697, .int .u32 0, .bool false] 56) 8 (fun _ => by kernel_rfl) (fun g17 w18 hb21 hF19 hC20 => ?_)
 refine WLc rfl rfl rfl rfl rfl (by kernel_rfl) (Fold_n (some ⟨g17, 0, none⟩) 4 4 aliveK w18 (Rd.blk (hC20.get 0 rfl) cellsC_len rfl) rfl (aliveK_at _) (by decide) (Rd.fr hg hC20.fr)) ?_
 rintro _ w22 ⟨ASz29, cSz29, xsz29, ANz29, cNz29, AKz29, cKz29, ALz29, cLz29, ARz29, cRz29, Gz29, rfl, hF23, hR24, hG25⟩
 have hC26 := hC20.callN hF23 hG25 hR24.lt
 refine ⟨_, rfl, ?_⟩
 refine WLr 3 [(11, .slice ARz29 ((resC (vals aliveK)).length) cRz29), (10, .agg #[.int .i64 ((foldC (vals aliveK)).epoch), .int .i64 ((foldC (vals aliveK)).now), .slice ASz29 xsz29.length cSz29, .slice ANz29 ((foldC (vals aliveK)).snats.length) cNz29, .slice AKz29 ((foldC (vals aliveK)).sick.length) cKz29, .slice ALz29 ((foldC (vals aliveK)).leases.length) cLz29]), (3, .tuple #[.agg #[.int .i64 ((foldC (vals aliveK)).epoch), .int .i64 ((foldC (vals aliveK)).now), .slice ASz29 xsz29.length cSz29, .slice ANz29 ((foldC (vals aliveK)).snats.length) cNz29, .slice AKz29 ((foldC (vals aliveK)).sick.length) cKz29, .slice ALz29 ((foldC (vals aliveK)).leases.length) cLz29], .slice ARz29 ((resC (vals aliveK)).length) cRz29])] (fun _ => by kernel_rfl) ?_
 refine WL.newM hC26 (fun b => .pointer (some ⟨b, 0, none⟩)) (.cells #[.int .i64 0, .int .i64 0, .slice none 0 0, .slice none 0 0, .slice none 0 0, .slice none 0 0] 31) 1 (fun _ => by kernel_rfl) (fun g30 w31 hb34 hF32 hC33 => ?_)
 have ho39 := own_fr hR24.R hF32 (by simp)
 have hf40 := svcsIn.fr hR24.ins hF32 (by simp)
 refine WLs (c' := #[.int .i64 ((foldC (vals aliveK)).epoch), .int .i64 ((foldC (vals aliveK)).now), .slice ASz29 xsz29.length cSz29, .slice ANz29 ((foldC (vals aliveK)).snats.length) cNz29, .slice AKz29 ((foldC (vals aliveK)).sick.length) cKz29, .slice ALz29 ((foldC (vals aliveK)).leases.length) cLz29]) hC33 1 31 g30 0 (.agg #[.int .i64 ((foldC (vals aliveK)).epoch), .int .i64 ((foldC (vals aliveK)).now), .slice ASz29 xsz29.length cSz29, .slice ANz29 ((foldC (vals aliveK)).snats.length) cNz29, .slice AKz29 ((foldC (vals aliveK)).sick.length) cKz29, .slice ALz29 ((foldC (vals aliveK)).leases.length) cLz29]) (by kernel_rfl) rfl (by kernel_rfl) (fun w41 hF43 hC44 => ?_)
 have ho49 := own_fr ho39 hF43 (fun x_ hx_ => (hC33.apartM 0 1 rfl rfl) x_ (hR24.sR x_ hx_))
 have hf50 := svcsIn.fr hf40 hF43 (hC33.apartM 0 1 rfl rfl)
 refine WLr 1 [(2, .slice ARz29 ((resC (vals aliveK)).length) cRz29)] (fun _ => by kernel_rfl) (WLd rfl (QXn (hK4 _ _ ?_)))
 refine WCs (fun K51 hK52 => ?_)
 refine WCg (WLr 4 [(15, .bool (((resC (vals aliveK)).length : Int) == 4)), (14, .bool (((resC (vals aliveK)).length : Int) == 4)), (13, .int .i64 ((resC (vals aliveK)).length : Int)), (12, .slice ARz29 ((resC (vals aliveK)).length) cRz29)] (fun _ => by kernel_rfl) ?_)
 refine WL.know 15 (.bool (((resC (vals aliveK)).length : Int) == 4)) (.bool true) rfl (congrArg Value.bool (by rw [res_len]; rfl)) ?_
 refine WLr 1 [(16, .pointer (some ⟨g30, 0, none⟩))] (fun _ => by kernel_rfl) ?_
 refine WL.load 3 (.pointer (some ⟨g30, 0, none⟩)) (.int .i64 ((foldC (vals aliveK)).epoch)) 17 (by kernel_rfl) (run_ld (hC44.get 1 rfl) rfl) ?_
 refine WLr 3 [(20, .bool (((foldC (vals aliveK)).epoch) == 4)), (19, .bool (((foldC (vals aliveK)).epoch) == 4)), (18, .bool (((foldC (vals aliveK)).epoch) == 4))] (fun _ => by kernel_rfl) ?_
 refine WL.know 20 (.bool (((foldC (vals aliveK)).epoch) == 4)) (.bool true) rfl (congrArg Value.bool (by rw [epoch_fold]; rfl)) ?_
 refine WLr 1 [(21, .pointer (some ⟨g30, 1, none⟩))] (fun _ => by kernel_rfl) ?_
 refine WL.load 3 (.pointer (some ⟨g30, 1, none⟩)) (.int .i64 ((foldC (vals aliveK)).now)) 22 (by kernel_rfl) (run_ld (hC44.get 1 rfl) rfl) ?_
 refine WLr 3 [(25, .bool (((foldC (vals aliveK)).now) == 40)), (24, .bool (((foldC (vals aliveK)).now) == 40)), (23, .bool (((foldC (vals aliveK)).now) == 40))] (fun _ => by kernel_rfl) ?_
 refine WL.know 25 (.bool (((foldC (vals aliveK)).now) == 40)) (.bool true) rfl (congrArg Value.bool (by rw [alive_now]; rfl)) ?_
 refine WLr 1 [(26, .slice ARz29 ((resC (vals aliveK)).length) cRz29)] (fun _ => by kernel_rfl) ?_
 have hn57 := own_count cellsR_len (by decide) ho49
 obtain ⟨e53, he54⟩ := get_some (xs := (resC (vals aliveK))) (i := 1) (by first | omega | (have q_ := res_len (vals aliveK); have q2_ : (vals aliveK).length = 4 := rfl; omega))
 obtain ⟨b55, hA56⟩ := own_addr (by decide) cellsR_len ho49 he54
 refine WLi ARz29 ((resC (vals aliveK)).length) cRz29 27 .i64 1 b55 0 1 5 (by kernel_rfl) hA56 (by first | omega | (have q_ := res_len (vals aliveK); have q2_ : (vals aliveK).length = 4 := rfl; omega)) (by first | omega | (have q_ := res_len (vals aliveK); have q2_ : (vals aliveK).length = 4 := rfl; omega)) 5 (by first | (simp; done) | omega) ?_
 refine WLr 2 [(29, .pointer (some ⟨b55, 7, none⟩)), (28, .pointer (some ⟨b55, 6, none⟩))] (fun _ => by kernel_rfl) ?_
 refine WL.load 3 (.pointer (some ⟨b55, 7, none⟩)) (.int .i64 e53.lease.first) 30 (by kernel_rfl) (run_load1 rfl (by simpa [Nat.add_assoc] using Rd.cell (own_rd ho49 cellsR_len (by decide)) hA56 he54 2 _ rfl)) ?_
 refine WLr 3 [(33, .bool (e53.lease.first == 1024)), (32, .bool (e53.lease.first == 1024)), (31, .bool (e53.lease.first == 1024))] (fun _ => by kernel_rfl) ?_
 refine WL.know 33 (.bool (e53.lease.first == 1024)) (.bool true) rfl (congrArg Value.bool (by have q_ := alive_at he54; simp at q_; rw [← q_.1]; rfl)) ?_
 refine WLr 1 [(34, .slice ARz29 ((resC (vals aliveK)).length) cRz29)] (fun _ => by kernel_rfl) ?_
 have hn62 := own_count cellsR_len (by decide) ho49
 obtain ⟨e58, he59⟩ := get_some (xs := (resC (vals aliveK))) (i := 1) (by first | omega | (have q_ := res_len (vals aliveK); have q2_ : (vals aliveK).length = 4 := rfl; omega))
 obtain ⟨b60, hA61⟩ := own_addr (by decide) cellsR_len ho49 he59
 refine WLi ARz29 ((resC (vals aliveK)).length) cRz29 35 .i64 1 b60 0 1 5 (by kernel_rfl) hA61 (by first | omega | (have q_ := res_len (vals aliveK); have q2_ : (vals aliveK).length = 4 := rfl; omega)) (by first | omega | (have q_ := res_len (vals aliveK); have q2_ : (vals aliveK).length = 4 := rfl; omega)) 5 (by first | (simp; done) | omega) ?_
 refine WLr 2 [(37, .pointer (some ⟨b60, 9, none⟩)), (36, .pointer (some ⟨b60, 6, none⟩))] (fun _ => by kernel_rfl) ?_
 refine WL.load 3 (.pointer (some ⟨b60, 9, none⟩)) (.int .i64 e58.lease.exp) 38 (by kernel_rfl) (run_load1 rfl (by simpa [Nat.add_assoc] using Rd.cell (own_rd ho49 cellsR_len (by decide)) hA61 he59 4 _ rfl)) ?_
 refine WLr 3 [(41, .bool (e58.lease.exp == 69)), (40, .bool (e58.lease.exp == 69)), (39, .bool (e58.lease.exp == 69))] (fun _ => by kernel_rfl) ?_
 refine WL.know 41 (.bool (e58.lease.exp == 69)) (.bool true) rfl (congrArg Value.bool (by have q_ := alive_at he59; simp at q_; rw [← q_.2]; rfl)) ?_
 refine WLr 1 [(42, .slice ARz29 ((resC (vals aliveK)).length) cRz29)] (fun _ => by kernel_rfl) ?_
 have hn67 := own_count cellsR_len (by decide) ho49
 obtain ⟨e63, he64⟩ := get_some (xs := (resC (vals aliveK))) (i := 2) (by first | omega | (have q_ := res_len (vals aliveK); have q2_ : (vals aliveK).length = 4 := rfl; omega))
 obtain ⟨b65, hA66⟩ := own_addr (by decide) cellsR_len ho49 he64
 refine WLi ARz29 ((resC (vals aliveK)).length) cRz29 43 .i64 2 b65 0 2 5 (by kernel_rfl) hA66 (by first | omega | (have q_ := res_len (vals aliveK); have q2_ : (vals aliveK).length = 4 := rfl; omega)) (by first | omega | (have q_ := res_len (vals aliveK); have q2_ : (vals aliveK).length = 4 := rfl; omega)) 10 (by first | (simp; done) | omega) ?_
 refine WLr 2 [(45, .pointer (some ⟨b65, 12, none⟩)), (44, .pointer (some ⟨b65, 11, none⟩))] (fun _ => by kernel_rfl) ?_
 refine WL.load 3 (.pointer (some ⟨b65, 12, none⟩)) (.int .i64 e63.lease.first) 46 (by kernel_rfl) (run_load1 rfl (by simpa [Nat.add_assoc] using Rd.cell (own_rd ho49 cellsR_len (by decide)) hA66 he64 2 _ rfl)) ?_
 refine WLr 3 [(49, .bool (e63.lease.first == 1032)), (48, .bool (e63.lease.first == 1032)), (47, .bool (e63.lease.first == 1032))] (fun _ => by kernel_rfl) ?_
 refine WL.know 49 (.bool (e63.lease.first == 1032)) (.bool true) rfl (congrArg Value.bool (by have q_ := alive_at he64; simp at q_; rw [← q_.1]; rfl)) ?_
 refine WLr 1 [(50, .slice ARz29 ((resC (vals aliveK)).length) cRz29)] (fun _ => by kernel_rfl) ?_
 have hn72 := own_count cellsR_len (by decide) ho49
 obtain ⟨e68, he69⟩ := get_some (xs := (resC (vals aliveK))) (i := 3) (by first | omega | (have q_ := res_len (vals aliveK); have q2_ : (vals aliveK).length = 4 := rfl; omega))
 obtain ⟨b70, hA71⟩ := own_addr (by decide) cellsR_len ho49 he69
 refine WLi ARz29 ((resC (vals aliveK)).length) cRz29 51 .i64 3 b70 0 3 5 (by kernel_rfl) hA71 (by first | omega | (have q_ := res_len (vals aliveK); have q2_ : (vals aliveK).length = 4 := rfl; omega)) (by first | omega | (have q_ := res_len (vals aliveK); have q2_ : (vals aliveK).length = 4 := rfl; omega)) 15 (by first | (simp; done) | omega) ?_
 refine WLr 2 [(53, .pointer (some ⟨b70, 17, none⟩)), (52, .pointer (some ⟨b70, 16, none⟩))] (fun _ => by kernel_rfl) ?_
 refine WL.load 3 (.pointer (some ⟨b70, 17, none⟩)) (.int .i64 e68.lease.first) 54 (by kernel_rfl) (run_load1 rfl (by simpa [Nat.add_assoc] using Rd.cell (own_rd ho49 cellsR_len (by decide)) hA71 he69 2 _ rfl)) ?_
 refine WLr 3 [(57, .bool (e68.lease.first == 1024)), (56, .bool (e68.lease.first == 1024)), (55, .bool (e68.lease.first == 1024))] (fun _ => by kernel_rfl) ?_
 refine WL.know 57 (.bool (e68.lease.first == 1024)) (.bool true) rfl (congrArg Value.bool (by have q_ := alive_at he69; simp at q_; rw [← q_.1]; rfl)) ?_
 refine WLr 1 [(58, .slice ARz29 ((resC (vals aliveK)).length) cRz29)] (fun _ => by kernel_rfl) ?_
 have hn77 := own_count cellsR_len (by decide) ho49
 obtain ⟨e73, he74⟩ := get_some (xs := (resC (vals aliveK))) (i := 3) (by first | omega | (have q_ := res_len (vals aliveK); have q2_ : (vals aliveK).length = 4 := rfl; omega))
 obtain ⟨b75, hA76⟩ := own_addr (by decide) cellsR_len ho49 he74
 refine WLi ARz29 ((resC (vals aliveK)).length) cRz29 59 .i64 3 b75 0 3 5 (by kernel_rfl) hA76 (by first | omega | (have q_ := res_len (vals aliveK); have q2_ : (vals aliveK).length = 4 := rfl; omega)) (by first | omega | (have q_ := res_len (vals aliveK); have q2_ : (vals aliveK).length = 4 := rfl; omega)) 15 (by first | (simp; done) | omega) ?_
 refine WLr 2 [(61, .pointer (some ⟨b75, 19, none⟩)), (60, .pointer (some ⟨b75, 16, none⟩))] (fun _ => by kernel_rfl) ?_
 refine WL.load 3 (.pointer (some ⟨b75, 19, none⟩)) (.int .i64 e73.lease.exp) 62 (by kernel_rfl) (run_load1 rfl (by simpa [Nat.add_assoc] using Rd.cell (own_rd ho49 cellsR_len (by decide)) hA76 he74 4 _ rfl)) ?_
 refine WLr 3 [(0, .bool (e73.lease.exp == 104)), (64, .bool (e73.lease.exp == 104)), (63, .bool (e73.lease.exp == 104))] (fun _ => by kernel_rfl) (WLd rfl (QXn (hK52 _ _ ?_)))
 refine WC.ret ?_
 refine (hret _ _ _ rfl ?_).1
 exact ⟨congrArg (fun b_ => Ending.returned (Value.bool b_)) (show ((e73.lease.exp == 104)) = true from by have q_ := alive_at he74; simp at q_; rw [← q_.2]; rfl), hC44.fr⟩

end Go.Proofs.YtfligklljkcbfaaDoor
