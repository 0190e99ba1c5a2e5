/- Contracts of functions of the program, each proved by a walk through its code; conditions stand in the statements. -/
import Derived.Test.YtfligklljkcbfaaDoorStR16
namespace Go.Proofs.YtfligklljkcbfaaDoor
set_option linter.unusedSimpArgs false
set_option linter.unusedVariables false
set_option linter.unusedSectionVars false
open Go Go.RowKit Go.Tw
set_option linter.unusedVariables false
set_option maxRecDepth 20000
def giveL (rs : List ResV) : List Lease := (rs.map (·.lease)).filter (fun l => decide (l ≠ noL))
theorem give_no {r : ResV} (h : r.lease = noL) : giveL [r] = [] := by simp [giveL, h]
theorem give_yes {r : ResV} (h : r.lease ≠ noL) : giveL [r] = [r.lease] := by simp [giveL, h]
theorem give_app (a b : List ResV) : giveL (a ++ b) = giveL a ++ giveL b := by simp [giveL]
theorem lend_first {L : List Lease} {vip dip now : Int} (h : grE L vip dip now = 0) : grL L vip dip now ≠ noL := by
  obtain ⟨n, _, h2, _⟩ := grant_new h
  intro e
  rw [h2] at e
  have := congrArg Lease.first e
  simp [noL] at this; omega
theorem rnew_first {L : List Lease} {vip first dip now : Int} (h : rnE L vip first dip now = 0) (hn : 0 ≤ now) : rnL L vip first dip now ≠ noL := by
  unfold rnL
  rw [if_pos h]
  intro e
  have := congrArg Lease.exp e
  simp [noL] at this; omega
theorem alone_lease {D : CfgV} {G : List Lease} (h : Alone D.leases G D.now) (h0 : 0 ≤ D.now) {dip : Int} (hv : isU32 (outV D.snats dip)) (hd : isU32 dip) : Alone (leaseC D dip).leases (G ++ giveL [leaseR D dip]) (leaseC D dip).now := by
  unfold leaseC leaseR
  by_cases ho : outB D.snats dip = false
  · rw [if_pos ho, if_pos ho, give_no rfl, List.append_nil]; exact h
  · rw [if_neg ho, if_neg ho]
    have hp : Alone (leaL D) G D.now := alone_prune h
    by_cases hE : lendE D (outV D.snats dip) dip = 0
    · rw [if_pos hE, if_pos hE]
      unfold lendE at hE
      unfold lendX lendL
      by_cases he : oldL D (outV D.snats dip) dip = []
      · rw [if_pos he] at hE
        rw [if_pos he, if_pos he, give_yes (lend_first hE)]
        exact alone_grant hp hE hv hd
      · rw [if_neg he] at hE
        rw [if_neg he, if_neg he, give_yes (rnew_first hE h0)]
        exact alone_renew hp hE
    · rw [if_neg hE, if_neg hE, give_no rfl, List.append_nil]; exact hp
theorem svcR_no (C : CfgV) (s : SvcV) : (svcR C s).lease = noL := by
  unfold svcR; split
  · rfl
  · split <;> rfl
theorem snatR_no (C : CfgV) (x : SnatV) (up : Bool) : (snatR C x up).lease = noL := by
  unfold snatR; split <;> rfl
theorem svcC_leases (C : CfgV) (s : SvcV) : (svcC C s).leases = C.leases ∧ (svcC C s).now = C.now := by
  unfold svcC; split <;> exact ⟨rfl, rfl⟩
theorem alone_apply {C : CfgV} {G : List Lease} {n : Nat} (h : Alone C.leases G C.now) (hw : wfCfg C n) {c : CmdV} (hd : isU32 c.dip) : Alone (applyC C c).leases (G ++ giveL [applyR C c]) (applyC C c).now := by
  unfold applyC applyR
  by_cases hg : goodC c = false
  · rw [if_pos hg, if_pos hg, give_no rfl, List.append_nil]; exact h
  · rw [if_neg hg, if_neg hg]
    obtain ⟨t0, t1⟩ := goodC_time (by simpa using hg : goodC c = true)
    have k := wf_tick hw t0 t1
    have hD : Alone (tickC (cntC C) c.time).leases G (tickC (cntC C) c.time).now := alone_wait h (show C.now ≤ max C.now c.time by omega)
    generalize tickC (cntC C) c.time = D at k hD
    by_cases k1 : c.kind = 1
    · rw [if_pos k1, if_pos k1, give_no (svcR_no _ _), List.append_nil, (svcC_leases _ _).1, (svcC_leases _ _).2]; exact hD
    · rw [if_neg k1, if_neg k1]
      by_cases k2 : c.kind = 2
      · rw [if_pos k2, if_pos k2, give_no (snatR_no _ _ _), List.append_nil]; exact hD
      · rw [if_neg k2, if_neg k2]
        by_cases k3 : c.kind = 3
        · rw [if_pos k3, if_pos k3, give_no rfl, List.append_nil]; exact hD
        · rw [if_neg k3, if_neg k3]
          exact alone_lease hD k.now0 (outV_u32 k.nok _) hd
theorem alone_from : ∀ (cs : List CmdV) (C : CfgV) (G : List Lease) (n : Nat), Alone C.leases G C.now → wfCfg C n → wfs cs → Alone (foldFrom C cs).leases (G ++ giveL (resFrom C cs)) (foldFrom C cs).now
  | [], C, G, n, h, _, _ => by simpa [foldFrom, resFrom, giveL] using h
  | c :: r, C, G, n, h, hw, hs => by
    have ih := alone_from r (applyC C c) (G ++ giveL [applyR C c]) (n + 1) (alone_apply h hw (hs c List.mem_cons_self).1) (wf_apply hw (hs c List.mem_cons_self).1 (hs c List.mem_cons_self).2) (fun x hx => hs x (List.mem_cons_of_mem _ hx))
    rw [List.append_assoc, ← give_app] at ih
    exact ih
theorem alone_fold {cs : List CmdV} (h : wfs cs) : Alone (foldC cs).leases (giveL (resC cs)) (foldC cs).now := alone_from cs zeroC [] 0 alone_nil wf_zero h
theorem give_step {L : List Cmd} {k : Nat} {e : ResV} (hk : k < L.length) (he : (resC (vals (L.take (k + 1))))[k]? = some e) : giveL (resC (vals (L.take (k + 1)))) = giveL (resC (vals (L.take k))) ++ giveL [e] := by
  have h := res_step (List.getElem?_eq_getElem hk)
  have hl : (resC (vals (L.take k))).length = k := by rw [res_len, vals_len, List.length_take]; omega
  rw [h, List.getElem?_append_right (by omega), hl, Nat.sub_self] at he
  simp at he
  subst he
  rw [h, give_app]
set_option maxHeartbeats 2000000 in
theorem StateLends_ct (A : Option Addr) (c : Nat) (L : List Cmd) (w : World) (hr : Rd w 12 cellsC A L) (hL : ∀ m ∈ L, cmdAt w m) (hlim : totE L ≤ 1099511627776) (hlc : L.length ≤ c) (hg : Rd w 1 (encI .u8) (some ⟨0, 0, none⟩) dbTab) : Calls Tryd.prog 4 #[.slice A L.length c] w fun e w' => e = .returned (.bool true) ∧ Fr w w' [] := by
 refine enterD (n := 96) Tryd.func4 rfl rfl (Nat.le_of_ble_eq_true rfl) ?_
 intro Q0 hN hret hret'
 have hC := Cx.start w
 refine WCs (fun K1 hK2 => ?_)
 refine WCg (WLr 1 [(2, .bool false)] (fun _ => by kernel_rfl) (WLd rfl (QXn (hK2 _ _ ?_))))
 refine WCs (fun K3 hK4 => ?_)
 refine WCs (fun K5 hK6 => ?_)
 refine WCg ?_
 refine WLc rfl rfl rfl rfl rfl (by kernel_rfl) (alive_ct w (Rd.fr hg hC.fr)) ?_
 rintro _ w8 ⟨rfl, hF7⟩
 refine ⟨_, rfl, ?_⟩
 have hC9 := hC.call hF7
 refine WLr 1 [(12, .bool false)] (fun _ => by kernel_rfl) (WLd rfl (QXn (hK6 _ _ ?_)))
 refine WCf rfl (WC.skip (QXn (hK4 _ _ ?_)))
 refine WCs (fun K10 hK11 => ?_)
 refine WCs (fun K12 hK13 => ?_)
 refine WCg (WLr 4 [(16, .bool (decide ((L.length : Int) > 60))), (15, .bool (decide ((L.length : Int) > 60))), (14, .int .i64 (L.length : Int)), (13, .slice A L.length c)] (fun _ => by kernel_rfl) ?_)
 refine WLa 16 (decide ((L.length : Int) > 60)) rfl (fun t14b => ?_) (fun t14b => ?_)
 ·
  have t14 : (60 : Int) < (L.length : Int) := by have q_ := of_decide_eq_true t14b; omega
  refine WLr 3 [(19, .bool true), (18, undef), (17, undef)] (fun _ => by kernel_rfl) (WLd rfl (QXn (hK13 _ _ ?_)))
  refine WCt rfl ?_
  refine WCs (fun K15 hK16 => ?_)
  refine WCg (WLr 1 [(2, .bool true)] (fun _ => by kernel_rfl) (WLd rfl (QXn (hK16 _ _ ?_))))
  refine WC.ret ?_
  refine QXr ?_
  refine (hret _ _ _ rfl ?_).1
  exact ⟨rfl, hC9.fr⟩
 ·
  have t14 : (L.length : Int) ≤ 60 := by have q_ := of_decide_eq_false t14b; omega
  refine WLr 1 [(17, .slice A L.length c)] (fun _ => by kernel_rfl) ?_
  refine WLc rfl rfl rfl rfl rfl (by kernel_rfl) (large_ct A c L w8 (Rd.fr hr hC9.fr) (fun m_ h_ => cmdAt.fr0 (hL m_ h_) hC9.fr) hlim) ?_
  rintro _ w18 ⟨rfl, hF17⟩
  refine ⟨_, rfl, ?_⟩
  have hC19 := hC9.call hF17
  refine WLr 1 [(19, .bool (decide (300 < bigL (vals L))))] (fun _ => by kernel_rfl) (WLd rfl (QXn (hK13 _ _ ?_)))
  refine WCa 19 (decide (300 < bigL (vals L))) rfl (fun t20b => ?_) (fun t20b => ?_)
  ·
   have t20 : (300 : Int) < bigL (vals L) := by have q_ := of_decide_eq_true t20b; omega
   refine WCt rfl ?_
   refine WCs (fun K21 hK22 => ?_)
   refine WCg (WLr 1 [(2, .bool true)] (fun _ => by kernel_rfl) (WLd rfl (QXn (hK22 _ _ ?_))))
   refine WC.ret ?_
   refine QXr ?_
   refine (hret _ _ _ rfl ?_).1
   exact ⟨rfl, hC19.fr⟩
  ·
   have t20 : bigL (vals L) ≤ 300 := by have q_ := of_decide_eq_false t20b; omega
   refine WCf rfl (WC.skip (QXn (hK11 _ _ ?_)))
   refine WCs (fun K23 hK24 => ?_)
   refine WCg ?_
   refine WL.newM hC19 (fun b => .slice (some ⟨b, 0, none⟩) 0 0) (.cells #[] 43) 20 (fun _ => by kernel_rfl) (fun g25 w26 hb29 hF27 hC28 => ?_)
   refine WLr 1 [(3, .slice (some ⟨g25, 0, none⟩) 0 0)] (fun _ => by kernel_rfl) (WLd rfl (QXn (hK24 _ _ ?_)))
   refine WCs (fun K30 hK31 => ?_)
   refine WCs (fun K32 hK33 => ?_)
   refine WCg (WLr 3 [(23, .int .i64 0), (22, .int .i64 (L.length : Int)), (21, .slice A L.length c)] (fun _ => by kernel_rfl) (WLd rfl (QXn (hK33 _ _ ?_))))
   refine WC.block ?_
   have hbl_ := bigL_len (vals L)
   rw [vals_len] at hbl_
   have ho35 : World.ownsRow w26 0 43 4 (.slice (some ⟨g25, 0, none⟩) 0 0) 0 [] := own_of_blk (Nat.zero_le _) (hC28.get 0 rfl) (Nat.le_refl _) (Nat.zero_le _) (by simp) rfl
   have hC34 := hC28.toF 0 rfl
   refine WC.loop (fun m_ E_ w_ => ∃ (k : Nat) (A5 : Option Addr) (n5 c5 : Nat), m_ = L.length - k ∧ E_ = [(0, .slice A L.length c), (3, .slice A5 n5 c5), (21, .slice A L.length c), (22, .int .i64 (L.length : Int)), (23, .int .i64 (k : Int))] ∧ Cx w [] w_ [] [blk (.slice A5 n5 c5)] ∧ World.ownsRow w_ 0 43 4 (.slice A5 n5 c5) n5 ((giveL (resC (vals (L.take k)))).flatMap encL) ∧ (k ≤ L.length)) ⟨_, _, ⟨0, some ⟨g25, 0, none⟩, 0, 0, rfl, rfl, hC34, (by simpa [giveL, resC, resFrom, vals] using ho35), Nat.zero_le _⟩, sub_of ⟨rfl, rfl, rfl, rfl, rfl, trivial⟩⟩ (fun m39 E_ w40 K36 hK37 hI38 => ?_)
   obtain ⟨k, A5, n5, c5, rfl, rfl, hC41, hgv, hk⟩ := hI38
   have hgn_ := own_count encL_len (by decide) hgv
   have hgl_ : (giveL (resC (vals (L.take k)))).length ≤ k := Nat.le_trans (List.length_filter_le _ _) (by rw [List.length_map, res_len, vals_len, List.length_take]; omega)
   refine WCs (fun K42 hK43 => ?_)
   refine WCg (WLr 1 [(24, .bool (decide ((k : Int) < (L.length : Int))))] (fun _ => by kernel_rfl) (WLd rfl (QXn (hK43 _ _ ?_))))
   refine WCs (fun K44 hK45 => ?_)
   refine WCa 24 (decide ((k : Int) < (L.length : Int))) rfl (fun t46b => ?_) (fun t46b => ?_)
   ·
    have t46 : (k : Int) < (L.length : Int) := by have q_ := of_decide_eq_true t46b; omega
    refine WCt rfl ?_
    refine WC.skip ?_
    refine QXn (hK45 _ _ ?_)
    refine WCs (fun K47 hK48 => ?_)
    refine WC.block ?_
    refine WCs (fun K49 hK50 => ?_)
    refine WCg (WLr 2 [(4, .int .i64 (k : Int)), (25, .int .i64 (k : Int))] (fun _ => by kernel_rfl) (WLd rfl (QXn (hK50 _ _ ?_))))
    refine WCs (fun K51 hK52 => ?_)
    refine WCg (WLr 3 [(29, .int .i64 (IntKind.i64.wrap ((k : Int) + 1))), (28, .int .i64 (k : Int)), (27, .slice A L.length c)] (fun _ => by kernel_rfl) ?_)
    refine WLt (show (.int .i64 (IntKind.i64.wrap ((k : Int) + 1)) : Value) = .int .i64 ((k : Int) + 1) from by rw [wrap_in_i64 ((k : Int) + 1) (by omega) (by omega)]) ?_
    have hb53 : k + 1 ≤ c := by omega
    refine WL.slc 22 56 12 A A L.length c 0 (k + 1) (k + 1) c none (some (.int .i64 ((k : Int) + 1))) 30 (by kernel_rfl) (by kernel_rfl) bnd.no (bnd.yes (by omega)) (by omega) hb53 (slcAt_pre _ _ _) (by first | rfl | omega) (by first | rfl | omega) ?_
    have hrd54 := Rd.slc hr 0 (k + 1) c hb53 (slcAt_pre _ _ _)
    have hkl_ : k < L.length := by omega
    have hwk_ := wf_at hL (show k + 1 ≤ L.length by omega)
    have hal_ := alone_fold (wfs_vals hL (k + 1))
    have hrl_ := res_len (vals (L.take (k + 1)))
    rw [vals_len, List.length_take, Nat.min_eq_left (show k + 1 ≤ L.length by omega)] at hrl_
    have hln_ := hwk_.ln
    refine WLc rfl rfl rfl rfl rfl (by kernel_rfl) (Fold_n A (k + 1) c (L.take (k + 1)) w40 (Rd.fr hrd54 hC41.fr) (by first | rfl | assumption | (simp; omega) | omega) (fun m_ h_ => cmdAt.fr0 (hL m_ (List.mem_of_mem_take h_)) hC41.fr) (by omega) (Rd.fr hg hC41.fr)) ?_
    rintro _ w55 ⟨ASz62, cSz62, xsz62, ANz62, cNz62, AKz62, cKz62, ALz62, cLz62, ARz62, cRz62, Gz62, rfl, hF56, hR57, hG58⟩
    have hC59 := hC41.callN hF56 hG58 hR57.lt
    refine ⟨_, rfl, ?_⟩
    have ho63 := own_fr hgv hF56 (by simp)
    refine WLr 3 [(33, .slice ARz62 ((resC (vals (L.take (k + 1)))).length) cRz62), (32, .agg #[.int .i64 ((foldC (vals (L.take (k + 1)))).epoch), .int .i64 ((foldC (vals (L.take (k + 1)))).now), .slice ASz62 xsz62.length cSz62, .slice ANz62 ((foldC (vals (L.take (k + 1)))).snats.length) cNz62, .slice AKz62 ((foldC (vals (L.take (k + 1)))).sick.length) cKz62, .slice ALz62 ((foldC (vals (L.take (k + 1)))).leases.length) cLz62]), (26, .tuple #[.agg #[.int .i64 ((foldC (vals (L.take (k + 1)))).epoch), .int .i64 ((foldC (vals (L.take (k + 1)))).now), .slice ASz62 xsz62.length cSz62, .slice ANz62 ((foldC (vals (L.take (k + 1)))).snats.length) cNz62, .slice AKz62 ((foldC (vals (L.take (k + 1)))).sick.length) cKz62, .slice ALz62 ((foldC (vals (L.take (k + 1)))).leases.length) cLz62], .slice ARz62 ((resC (vals (L.take (k + 1)))).length) cRz62])] (fun _ => by kernel_rfl) ?_
    refine WL.newM hC59 (fun b => .pointer (some ⟨b, 0, none⟩)) (.cells #[.int .i64 0, .int .i64 0, .slice none 0 0, .slice none 0 0, .slice none 0 0, .slice none 0 0] 31) 5 (fun _ => by kernel_rfl) (fun g64 w65 hb68 hF66 hC67 => ?_)
    have ho69 := own_fr ho63 hF66 (by simp)
    have ho70 := own_fr hR57.S hF66 (by simp)
    have ho71 := own_fr hR57.N hF66 (by simp)
    have ho72 := own_fr hR57.K hF66 (by simp)
    have ho73 := own_fr hR57.L hF66 (by simp)
    have ho74 := own_fr hR57.R hF66 (by simp)
    have hf75 := svcsIn.fr hR57.ins hF66 (by simp)
    refine WLs (c' := #[.int .i64 ((foldC (vals (L.take (k + 1)))).epoch), .int .i64 ((foldC (vals (L.take (k + 1)))).now), .slice ASz62 xsz62.length cSz62, .slice ANz62 ((foldC (vals (L.take (k + 1)))).snats.length) cNz62, .slice AKz62 ((foldC (vals (L.take (k + 1)))).sick.length) cKz62, .slice ALz62 ((foldC (vals (L.take (k + 1)))).leases.length) cLz62]) hC67 0 31 g64 0 (.agg #[.int .i64 ((foldC (vals (L.take (k + 1)))).epoch), .int .i64 ((foldC (vals (L.take (k + 1)))).now), .slice ASz62 xsz62.length cSz62, .slice ANz62 ((foldC (vals (L.take (k + 1)))).snats.length) cNz62, .slice AKz62 ((foldC (vals (L.take (k + 1)))).sick.length) cKz62, .slice ALz62 ((foldC (vals (L.take (k + 1)))).leases.length) cLz62]) (by kernel_rfl) rfl (by kernel_rfl) (fun w76 hF78 hC79 => ?_)
    have ho80 := own_fr ho69 hF78 (hC67.apartM 0 0 rfl rfl)
    have ho81 := own_fr ho70 hF78 (fun x_ hx_ => (hC67.apartM 1 0 rfl rfl) x_ (hR57.sS x_ hx_))
    have ho82 := own_fr ho71 hF78 (fun x_ hx_ => (hC67.apartM 1 0 rfl rfl) x_ (hR57.sN x_ hx_))
    have ho83 := own_fr ho72 hF78 (fun x_ hx_ => (hC67.apartM 1 0 rfl rfl) x_ (hR57.sK x_ hx_))
    have ho84 := own_fr ho73 hF78 (fun x_ hx_ => (hC67.apartM 1 0 rfl rfl) x_ (hR57.sL x_ hx_))
    have ho85 := own_fr ho74 hF78 (fun x_ hx_ => (hC67.apartM 1 0 rfl rfl) x_ (hR57.sR x_ hx_))
    have hf86 := svcsIn.fr hf75 hF78 (hC67.apartM 1 0 rfl rfl)
    refine WLr 1 [(6, .slice ARz62 ((resC (vals (L.take (k + 1)))).length) cRz62)] (fun _ => by kernel_rfl) (WLd rfl (QXn (hK52 _ _ ?_)))
    refine WCs (fun K87 hK88 => ?_)
    refine WCs (fun K89 hK90 => ?_)
    refine WCg (WLr 1 [(34, .pointer (some ⟨g64, 5, none⟩))] (fun _ => by kernel_rfl) ?_)
    refine WL.load 29 (.pointer (some ⟨g64, 5, none⟩)) (.slice ALz62 ((foldC (vals (L.take (k + 1)))).leases.length) cLz62) 35 (by kernel_rfl) (run_ld (hC79.get 0 rfl) rfl) ?_
    refine WLc rfl rfl rfl rfl rfl (by kernel_rfl) (LCheck_ct ALz62 cLz62 ((foldC (vals (L.take (k + 1)))).leases) w76 (own_rd ho84 encL_len (by decide)) hwk_.lok (by omega)) ?_
    rintro _ w92 ⟨rfl, hF91⟩
    refine ⟨_, rfl, ?_⟩
    have hC93 := hC79.call hF91
    have ho94 := own_fr ho80 hF91 (by simp)
    have ho95 := own_fr ho81 hF91 (by simp)
    have ho96 := own_fr ho82 hF91 (by simp)
    have ho97 := own_fr ho83 hF91 (by simp)
    have ho98 := own_fr ho84 hF91 (by simp)
    have ho99 := own_fr ho85 hF91 (by simp)
    have hf100 := svcsIn.fr hf86 hF91 (by simp)
    have hr101 : ∀ w_, Sem.run Tryd.prog (do eqGuard .neq 38 (Operand.tmp 36) (Operand.const (.nilIface)) (errV 73 (if checkL ((foldC (vals (L.take (k + 1)))).leases) then 0 else 9)) (.nilIface); binOp .neq 38 (errV 73 (if checkL ((foldC (vals (L.take (k + 1)))).leases) then 0 else 9)) (.nilIface)) w_ = .ok (.bool (!(checkL ((foldC (vals (L.take (k + 1)))).leases)))) w_ := fun w_ => (err_neq _ (if checkL ((foldC (vals (L.take (k + 1)))).leases) then 0 else 9) (checkL ((foldC (vals (L.take (k + 1)))).leases)) (by cases checkL ((foldC (vals (L.take (k + 1)))).leases) <;> rfl) _)
    refine WL.sem (do eqGuard .neq 38 (Operand.tmp 36) (Operand.const (.nilIface)) (errV 73 (if checkL ((foldC (vals (L.take (k + 1)))).leases) then 0 else 9)) (.nilIface); binOp .neq 38 (errV 73 (if checkL ((foldC (vals (L.take (k + 1)))).leases) then 0 else 9)) (.nilIface)) 37 (.bool (!(checkL ((foldC (vals (L.take (k + 1)))).leases)))) (by kernel_rfl) (hr101 _) ?_
    refine WLd rfl (QXn (hK90 _ _ ?_))
    refine WC.know 37 (.bool (!(checkL ((foldC (vals (L.take (k + 1)))).leases)))) (.bool false) rfl (congrArg Value.bool (by rw [hal_.chk]; rfl)) ?_
    refine WCf rfl (WC.skip (QXn (hK88 _ _ ?_)))
    refine WCs (fun K102 hK103 => ?_)
    refine WCs (fun K104 hK105 => ?_)
    refine WCg (WLr 3 [(40, .int .i64 0), (39, .int .i64 (n5 : Int)), (38, .slice A5 n5 c5)] (fun _ => by kernel_rfl) (WLd rfl (QXn (hK105 _ _ ?_))))
    refine WC.block ?_
    refine WC.loop (fun m_ E_ w_ => ∃ (i : Nat), m_ = n5 - i ∧ E_ = [(0, .slice A L.length c), (3, .slice A5 n5 c5), (4, .int .i64 (k : Int)), (5, .pointer (some ⟨g64, 0, none⟩)), (6, .slice ARz62 ((resC (vals (L.take (k + 1)))).length) cRz62), (21, .slice A L.length c), (22, .int .i64 (L.length : Int)), (23, .int .i64 (k : Int)), (38, .slice A5 n5 c5), (39, .int .i64 (n5 : Int)), (40, .int .i64 (i : Int))] ∧ Cx w [] w_ [(g64, .cells #[.int .i64 ((foldC (vals (L.take (k + 1)))).epoch), .int .i64 ((foldC (vals (L.take (k + 1)))).now), .slice ASz62 xsz62.length cSz62, .slice ANz62 ((foldC (vals (L.take (k + 1)))).snats.length) cNz62, .slice AKz62 ((foldC (vals (L.take (k + 1)))).sick.length) cKz62, .slice ALz62 ((foldC (vals (L.take (k + 1)))).leases.length) cLz62] 31)] [blk (.slice A5 n5 c5), Gz62] ∧ World.ownsRow w_ 0 43 4 (.slice A5 n5 c5) n5 ((giveL (resC (vals (L.take k)))).flatMap encL) ∧ World.ownsRow w_ 0 52 4 (.slice ASz62 xsz62.length cSz62) xsz62.length (xsz62.flatMap cellsS) ∧ World.ownsRow w_ 0 54 2 (.slice ANz62 ((foldC (vals (L.take (k + 1)))).snats.length) cNz62) ((foldC (vals (L.take (k + 1)))).snats.length) (((foldC (vals (L.take (k + 1)))).snats).flatMap cellsN) ∧ World.ownsRow w_ 0 41 1 (.slice AKz62 ((foldC (vals (L.take (k + 1)))).sick.length) cKz62) ((foldC (vals (L.take (k + 1)))).sick.length) (((foldC (vals (L.take (k + 1)))).sick).flatMap (Go.Tw.encI .u32)) ∧ World.ownsRow w_ 0 43 4 (.slice ALz62 ((foldC (vals (L.take (k + 1)))).leases.length) cLz62) ((foldC (vals (L.take (k + 1)))).leases.length) (((foldC (vals (L.take (k + 1)))).leases).flatMap encL) ∧ World.ownsRow w_ 0 47 5 (.slice ARz62 ((resC (vals (L.take (k + 1)))).length) cRz62) ((resC (vals (L.take (k + 1)))).length) ((resC (vals (L.take (k + 1)))).flatMap cellsR) ∧ svcsIn w_ Gz62 xsz62 ∧ (i ≤ n5)) ⟨_, _, ⟨0, rfl, rfl, hC93, ho94, ho95, ho96, ho97, ho98, ho99, hf100, Nat.zero_le _⟩, sub_of ⟨rfl, rfl, rfl, rfl, rfl, rfl, rfl, rfl, rfl, rfl, rfl, trivial⟩⟩ (fun m109 E_ w110 K106 hK107 hI108 => ?_)
    obtain ⟨i, rfl, rfl, hC111, given_m109, Sz62_m109, Nz62_m109, Kz62_m109, Lz62_m109, Rz62_m109, inz62_m109, hi⟩ := hI108
    refine WCs (fun K112 hK113 => ?_)
    refine WCg (WLr 1 [(41, .bool (decide ((i : Int) < (n5 : Int))))] (fun _ => by kernel_rfl) (WLd rfl (QXn (hK113 _ _ ?_))))
    refine WCs (fun K114 hK115 => ?_)
    refine WCa 41 (decide ((i : Int) < (n5 : Int))) rfl (fun t116b => ?_) (fun t116b => ?_)
    ·
     have t116 : (i : Int) < (n5 : Int) := by have q_ := of_decide_eq_true t116b; omega
     refine WCt rfl ?_
     refine WC.skip ?_
     refine QXn (hK115 _ _ ?_)
     refine WCs (fun K117 hK118 => ?_)
     refine WC.block ?_
     refine WCs (fun K119 hK120 => ?_)
     refine WCg ?_
     have hn125 := own_count encL_len (by decide) given_m109
     obtain ⟨e121, he122⟩ := get_some (xs := (giveL (resC (vals (L.take k))))) (i := i) (by omega)
     obtain ⟨b123, hA124⟩ := own_addr (by decide) encL_len given_m109 he122
     refine WLi A5 n5 c5 42 .i64 (i : Int) b123 0 i 4 (by kernel_rfl) hA124 (by omega) (by omega) (i * 4) (by first | (simp; done) | omega) ?_
     refine WL.load 43 (.pointer (some ⟨b123, i * 4, none⟩)) (.agg #[.int .u32 e121.vip, .int .i64 e121.first, .int .u32 e121.dip, .int .i64 e121.exp]) 43 (by kernel_rfl) (run_rdN (l := [.int .u32 e121.vip, .int .i64 e121.first, .int .u32 e121.dip, .int .i64 e121.exp]) rfl rfl (fun j u hu => by have hq_ := Rd.cell (own_rd given_m109 encL_len (by decide)) hA124 he122 j u hu; simpa [Nat.add_assoc] using hq_)) ?_
     refine WL.newM hC111 (fun b => .pointer (some ⟨b, 0, none⟩)) (.cells #[.int .u32 0, .int .i64 0, .int .u32 0, .int .i64 0] 43) 8 (fun _ => by kernel_rfl) (fun g126 w127 hb130 hF128 hC129 => ?_)
     have ho131 := own_fr given_m109 hF128 (by simp)
     have ho132 := own_fr Sz62_m109 hF128 (by simp)
     have ho133 := own_fr Nz62_m109 hF128 (by simp)
     have ho134 := own_fr Kz62_m109 hF128 (by simp)
     have ho135 := own_fr Lz62_m109 hF128 (by simp)
     have ho136 := own_fr Rz62_m109 hF128 (by simp)
     have hf137 := svcsIn.fr inz62_m109 hF128 (by simp)
     refine WLs (c' := #[.int .u32 e121.vip, .int .i64 e121.first, .int .u32 e121.dip, .int .i64 e121.exp]) hC129 1 43 g126 0 (.agg #[.int .u32 e121.vip, .int .i64 e121.first, .int .u32 e121.dip, .int .i64 e121.exp]) (by kernel_rfl) rfl (by kernel_rfl) (fun w138 hF140 hC141 => ?_)
     have ho142 := own_fr ho131 hF140 (hC129.apartM 0 1 rfl rfl)
     have ho143 := own_fr ho132 hF140 (fun x_ hx_ => (hC129.apartM 1 1 rfl rfl) x_ (hR57.sS x_ hx_))
     have ho144 := own_fr ho133 hF140 (fun x_ hx_ => (hC129.apartM 1 1 rfl rfl) x_ (hR57.sN x_ hx_))
     have ho145 := own_fr ho134 hF140 (fun x_ hx_ => (hC129.apartM 1 1 rfl rfl) x_ (hR57.sK x_ hx_))
     have ho146 := own_fr ho135 hF140 (fun x_ hx_ => (hC129.apartM 1 1 rfl rfl) x_ (hR57.sL x_ hx_))
     have ho147 := own_fr ho136 hF140 (fun x_ hx_ => (hC129.apartM 1 1 rfl rfl) x_ (hR57.sR x_ hx_))
     have hf148 := svcsIn.fr hf137 hF140 (hC129.apartM 1 1 rfl rfl)
     refine WLd rfl (QXn (hK120 _ _ ?_))
     refine WCs (fun K149 hK150 => ?_)
     refine WCg (WLr 1 [(45, .pointer (some ⟨g64, 5, none⟩))] (fun _ => by kernel_rfl) ?_)
     refine WL.load 29 (.pointer (some ⟨g64, 5, none⟩)) (.slice ALz62 ((foldC (vals (L.take (k + 1)))).leases.length) cLz62) 46 (by kernel_rfl) (run_ld (hC141.get 0 rfl) rfl) ?_
     refine WLr 1 [(47, .pointer (some ⟨g126, 0, none⟩))] (fun _ => by kernel_rfl) ?_
     refine WL.load 41 (.pointer (some ⟨g126, 0, none⟩)) (.int .u32 e121.vip) 48 (by kernel_rfl) (run_ld (hC141.get 1 rfl) rfl) ?_
     refine WLr 1 [(49, .pointer (some ⟨g126, 1, none⟩))] (fun _ => by kernel_rfl) ?_
     refine WL.load 3 (.pointer (some ⟨g126, 1, none⟩)) (.int .i64 e121.first) 50 (by kernel_rfl) (run_ld (hC141.get 1 rfl) rfl) ?_
     refine WLr 1 [(51, .pointer (some ⟨g64, 1, none⟩))] (fun _ => by kernel_rfl) ?_
     refine WL.load 3 (.pointer (some ⟨g64, 1, none⟩)) (.int .i64 ((foldC (vals (L.take (k + 1)))).now)) 52 (by kernel_rfl) (run_ld (hC141.get 0 rfl) rfl) ?_
     have hmg_ : e121 ∈ giveL (resC (vals (L.take (k + 1)))) := (by rw [show giveL (resC (vals (L.take (k + 1)))) = (giveL (resC (vals (L.take k)))) ++ giveL [(resC (vals (L.take (k + 1))))[k]] from give_step hkl_ (List.getElem?_eq_getElem (by omega))]; exact List.mem_append_left _ (List.mem_of_getElem? he122))
     obtain ⟨_, _, _, _, hf1_, hf2_, _⟩ := hal_.ok _ hmg_
     refine WLc rfl rfl rfl rfl rfl (by kernel_rfl) (Find_ct ALz62 cLz62 ((foldC (vals (L.take (k + 1)))).leases) e121.vip e121.first ((foldC (vals (L.take (k + 1)))).now) w138 (own_rd ho146 encL_len (by decide)) hwk_.lok (by first | omega | simp) (by omega)) ?_
     rintro _ w152 ⟨rfl, hF151⟩
     refine ⟨_, rfl, ?_⟩
     have hC153 := hC141.call hF151
     have ho154 := own_fr ho142 hF151 (by simp)
     have ho155 := own_fr ho143 hF151 (by simp)
     have ho156 := own_fr ho144 hF151 (by simp)
     have ho157 := own_fr ho145 hF151 (by simp)
     have ho158 := own_fr ho146 hF151 (by simp)
     have ho159 := own_fr ho147 hF151 (by simp)
     have hf160 := svcsIn.fr hf148 hF151 (by simp)
     refine WLr 3 [(55, .bool (hasL (((foldC (vals (L.take (k + 1)))).leases).filter (findP e121.vip e121.first ((foldC (vals (L.take (k + 1)))).now))))), (54, .agg #[.int .u32 ((headL (((foldC (vals (L.take (k + 1)))).leases).filter (findP e121.vip e121.first ((foldC (vals (L.take (k + 1)))).now)))).vip), .int .i64 ((headL (((foldC (vals (L.take (k + 1)))).leases).filter (findP e121.vip e121.first ((foldC (vals (L.take (k + 1)))).now)))).first), .int .u32 ((headL (((foldC (vals (L.take (k + 1)))).leases).filter (findP e121.vip e121.first ((foldC (vals (L.take (k + 1)))).now)))).dip), .int .i64 ((headL (((foldC (vals (L.take (k + 1)))).leases).filter (findP e121.vip e121.first ((foldC (vals (L.take (k + 1)))).now)))).exp)]), (44, .tuple #[.agg #[.int .u32 ((headL (((foldC (vals (L.take (k + 1)))).leases).filter (findP e121.vip e121.first ((foldC (vals (L.take (k + 1)))).now)))).vip), .int .i64 ((headL (((foldC (vals (L.take (k + 1)))).leases).filter (findP e121.vip e121.first ((foldC (vals (L.take (k + 1)))).now)))).first), .int .u32 ((headL (((foldC (vals (L.take (k + 1)))).leases).filter (findP e121.vip e121.first ((foldC (vals (L.take (k + 1)))).now)))).dip), .int .i64 ((headL (((foldC (vals (L.take (k + 1)))).leases).filter (findP e121.vip e121.first ((foldC (vals (L.take (k + 1)))).now)))).exp)], .bool (hasL (((foldC (vals (L.take (k + 1)))).leases).filter (findP e121.vip e121.first ((foldC (vals (L.take (k + 1)))).now))))])] (fun _ => by kernel_rfl) ?_
     refine WL.newM hC153 (fun b => .pointer (some ⟨b, 0, none⟩)) (.cells #[.int .u32 0, .int .i64 0, .int .u32 0, .int .i64 0] 43) 9 (fun _ => by kernel_rfl) (fun g161 w162 hb165 hF163 hC164 => ?_)
     have ho166 := own_fr ho154 hF163 (by simp)
     have ho167 := own_fr ho155 hF163 (by simp)
     have ho168 := own_fr ho156 hF163 (by simp)
     have ho169 := own_fr ho157 hF163 (by simp)
     have ho170 := own_fr ho158 hF163 (by simp)
     have ho171 := own_fr ho159 hF163 (by simp)
     have hf172 := svcsIn.fr hf160 hF163 (by simp)
     refine WLs (c' := #[.int .u32 ((headL (((foldC (vals (L.take (k + 1)))).leases).filter (findP e121.vip e121.first ((foldC (vals (L.take (k + 1)))).now)))).vip), .int .i64 ((headL (((foldC (vals (L.take (k + 1)))).leases).filter (findP e121.vip e121.first ((foldC (vals (L.take (k + 1)))).now)))).first), .int .u32 ((headL (((foldC (vals (L.take (k + 1)))).leases).filter (findP e121.vip e121.first ((foldC (vals (L.take (k + 1)))).now)))).dip), .int .i64 ((headL (((foldC (vals (L.take (k + 1)))).leases).filter (findP e121.vip e121.first ((foldC (vals (L.take (k + 1)))).now)))).exp)]) hC164 2 43 g161 0 (.agg #[.int .u32 ((headL (((foldC (vals (L.take (k + 1)))).leases).filter (findP e121.vip e121.first ((foldC (vals (L.take (k + 1)))).now)))).vip), .int .i64 ((headL (((foldC (vals (L.take (k + 1)))).leases).filter (findP e121.vip e121.first ((foldC (vals (L.take (k + 1)))).now)))).first), .int .u32 ((headL (((foldC (vals (L.take (k + 1)))).leases).filter (findP e121.vip e121.first ((foldC (vals (L.take (k + 1)))).now)))).dip), .int .i64 ((headL (((foldC (vals (L.take (k + 1)))).leases).filter (findP e121.vip e121.first ((foldC (vals (L.take (k + 1)))).now)))).exp)]) (by kernel_rfl) rfl (by kernel_rfl) (fun w173 hF175 hC176 => ?_)
     have ho177 := own_fr ho166 hF175 (hC164.apartM 0 2 rfl rfl)
     have ho178 := own_fr ho167 hF175 (fun x_ hx_ => (hC164.apartM 1 2 rfl rfl) x_ (hR57.sS x_ hx_))
     have ho179 := own_fr ho168 hF175 (fun x_ hx_ => (hC164.apartM 1 2 rfl rfl) x_ (hR57.sN x_ hx_))
     have ho180 := own_fr ho169 hF175 (fun x_ hx_ => (hC164.apartM 1 2 rfl rfl) x_ (hR57.sK x_ hx_))
     have ho181 := own_fr ho170 hF175 (fun x_ hx_ => (hC164.apartM 1 2 rfl rfl) x_ (hR57.sL x_ hx_))
     have ho182 := own_fr ho171 hF175 (fun x_ hx_ => (hC164.apartM 1 2 rfl rfl) x_ (hR57.sR x_ hx_))
     have hf183 := svcsIn.fr hf172 hF175 (hC164.apartM 1 2 rfl rfl)
     refine WLr 1 [(10, .bool (hasL (((foldC (vals (L.take (k + 1)))).leases).filter (findP e121.vip e121.first ((foldC (vals (L.take (k + 1)))).now)))))] (fun _ => by kernel_rfl) (WLd rfl (QXn (hK150 _ _ ?_)))
     refine WCs (fun K184 hK185 => ?_)
     refine WCg (WLr 1 [(56, .pointer (some ⟨g126, 3, none⟩))] (fun _ => by kernel_rfl) ?_)
     refine WL.load 3 (.pointer (some ⟨g126, 3, none⟩)) (.int .i64 e121.exp) 57 (by kernel_rfl) (run_ld (hC176.get 1 rfl) rfl) ?_
     refine WLr 1 [(58, .pointer (some ⟨g64, 1, none⟩))] (fun _ => by kernel_rfl) ?_
     refine WL.load 3 (.pointer (some ⟨g64, 1, none⟩)) (.int .i64 ((foldC (vals (L.take (k + 1)))).now)) 59 (by kernel_rfl) (run_ld (hC176.get 0 rfl) rfl) ?_
     refine WLr 2 [(61, .bool (decide (e121.exp ≥ ((foldC (vals (L.take (k + 1)))).now)))), (60, .bool (decide (e121.exp ≥ ((foldC (vals (L.take (k + 1)))).now))))] (fun _ => by kernel_rfl) ?_
     refine WLa 61 (decide (e121.exp ≥ ((foldC (vals (L.take (k + 1)))).now))) rfl (fun t186b => ?_) (fun t186b => ?_)
     ·
      have t186 : ((foldC (vals (L.take (k + 1)))).now) ≤ e121.exp := by have q_ := of_decide_eq_true t186b; omega
      refine WLr 3 [(64, .bool (!(hasL (((foldC (vals (L.take (k + 1)))).leases).filter (findP e121.vip e121.first ((foldC (vals (L.take (k + 1)))).now)))))), (63, .bool (!(hasL (((foldC (vals (L.take (k + 1)))).leases).filter (findP e121.vip e121.first ((foldC (vals (L.take (k + 1)))).now)))))), (62, .bool (hasL (((foldC (vals (L.take (k + 1)))).leases).filter (findP e121.vip e121.first ((foldC (vals (L.take (k + 1)))).now)))))] (fun _ => by kernel_rfl) ?_
      refine WL.know 64 (.bool (!(hasL (((foldC (vals (L.take (k + 1)))).leases).filter (findP e121.vip e121.first ((foldC (vals (L.take (k + 1)))).now)))))) (.bool false) rfl (congrArg Value.bool (by rw [(alone_find hal_ hmg_ (by omega)).1]; rfl)) ?_
      refine WLr 1 [(65, .pointer (some ⟨g161, 2, none⟩))] (fun _ => by kernel_rfl) ?_
      refine WL.load 41 (.pointer (some ⟨g161, 2, none⟩)) (.int .u32 ((headL (((foldC (vals (L.take (k + 1)))).leases).filter (findP e121.vip e121.first ((foldC (vals (L.take (k + 1)))).now)))).dip)) 66 (by kernel_rfl) (run_ld (hC176.get 2 rfl) rfl) ?_
      refine WLr 1 [(67, .pointer (some ⟨g126, 2, none⟩))] (fun _ => by kernel_rfl) ?_
      refine WL.load 41 (.pointer (some ⟨g126, 2, none⟩)) (.int .u32 e121.dip) 68 (by kernel_rfl) (run_ld (hC176.get 1 rfl) rfl) ?_
      refine WLr 3 [(71, .bool (((headL (((foldC (vals (L.take (k + 1)))).leases).filter (findP e121.vip e121.first ((foldC (vals (L.take (k + 1)))).now)))).dip) != e121.dip)), (70, .bool (((headL (((foldC (vals (L.take (k + 1)))).leases).filter (findP e121.vip e121.first ((foldC (vals (L.take (k + 1)))).now)))).dip) != e121.dip)), (69, .bool (((headL (((foldC (vals (L.take (k + 1)))).leases).filter (findP e121.vip e121.first ((foldC (vals (L.take (k + 1)))).now)))).dip) != e121.dip))] (fun _ => by kernel_rfl) ?_
      refine WL.know 71 (.bool (((headL (((foldC (vals (L.take (k + 1)))).leases).filter (findP e121.vip e121.first ((foldC (vals (L.take (k + 1)))).now)))).dip) != e121.dip)) (.bool false) rfl (congrArg Value.bool (by rw [(alone_find hal_ hmg_ (by omega)).2.1]; simp)) ?_
      refine WLr 1 [(72, .pointer (some ⟨g161, 3, none⟩))] (fun _ => by kernel_rfl) ?_
      refine WL.load 3 (.pointer (some ⟨g161, 3, none⟩)) (.int .i64 ((headL (((foldC (vals (L.take (k + 1)))).leases).filter (findP e121.vip e121.first ((foldC (vals (L.take (k + 1)))).now)))).exp)) 73 (by kernel_rfl) (run_ld (hC176.get 2 rfl) rfl) ?_
      refine WLr 1 [(74, .pointer (some ⟨g126, 3, none⟩))] (fun _ => by kernel_rfl) ?_
      refine WL.load 3 (.pointer (some ⟨g126, 3, none⟩)) (.int .i64 e121.exp) 75 (by kernel_rfl) (run_ld (hC176.get 1 rfl) rfl) ?_
      refine WLr 3 [(78, .bool (decide (((headL (((foldC (vals (L.take (k + 1)))).leases).filter (findP e121.vip e121.first ((foldC (vals (L.take (k + 1)))).now)))).exp) < e121.exp))), (77, .bool (decide (((headL (((foldC (vals (L.take (k + 1)))).leases).filter (findP e121.vip e121.first ((foldC (vals (L.take (k + 1)))).now)))).exp) < e121.exp))), (76, .bool (decide (((headL (((foldC (vals (L.take (k + 1)))).leases).filter (findP e121.vip e121.first ((foldC (vals (L.take (k + 1)))).now)))).exp) < e121.exp)))] (fun _ => by kernel_rfl) (WLd rfl (QXn (hK185 _ _ ?_)))
      refine WC.know 78 (.bool (decide (((headL (((foldC (vals (L.take (k + 1)))).leases).filter (findP e121.vip e121.first ((foldC (vals (L.take (k + 1)))).now)))).exp) < e121.exp))) (.bool false) rfl (congrArg Value.bool (by exact decide_eq_false (by have q_ := (alone_find hal_ hmg_ (by omega)).2.2.2; omega))) ?_
      refine WCf rfl (WC.skip ?_)
      refine QXb ?_
      refine QXn (hK118 _ _ ?_)
      refine WCg (WLr 1 [(79, .int .i64 (IntKind.i64.wrap ((i : Int) + 1)))] (fun _ => by kernel_rfl) ?_)
      refine WLt (show (.int .i64 (IntKind.i64.wrap ((i : Int) + 1)) : Value) = .int .i64 ((i : Int) + 1) from by rw [wrap_in_i64 ((i : Int) + 1) (by omega) (by omega)]) ?_
      refine WLr 1 [(40, .int .i64 ((i : Int) + 1))] (fun _ => by kernel_rfl) ?_
      refine WLd rfl ?_
      refine QXn ?_
      have hC187 := hC176.pick [0] [0, 1] rfl rfl
      refine fun a_ ha_ => hK107 _ _ _ ?_ ⟨i + 1, rfl, rfl, hC187, ho177, ho178, ho179, ho180, ho181, ho182, hf183, by omega⟩ a_ (ha_.weaken (sub_of ⟨rfl, rfl, rfl, rfl, rfl, rfl, rfl, rfl, rfl, rfl, rfl, trivial⟩))
      omega
     ·
      have t186 : e121.exp < ((foldC (vals (L.take (k + 1)))).now) := by have q_ := of_decide_eq_false t186b; omega
      refine WLr 17 [(78, .bool false), (77, undef), (76, undef), (75, undef), (74, undef), (73, undef), (72, undef), (71, undef), (70, undef), (69, undef), (68, undef), (67, undef), (66, undef), (65, undef), (64, undef), (63, undef), (62, undef)] (fun _ => by kernel_rfl) (WLd rfl (QXn (hK185 _ _ ?_)))
      refine WCf rfl (WC.skip ?_)
      refine QXb ?_
      refine QXn (hK118 _ _ ?_)
      refine WCg (WLr 1 [(79, .int .i64 (IntKind.i64.wrap ((i : Int) + 1)))] (fun _ => by kernel_rfl) ?_)
      refine WLt (show (.int .i64 (IntKind.i64.wrap ((i : Int) + 1)) : Value) = .int .i64 ((i : Int) + 1) from by rw [wrap_in_i64 ((i : Int) + 1) (by omega) (by omega)]) ?_
      refine WLr 1 [(40, .int .i64 ((i : Int) + 1))] (fun _ => by kernel_rfl) ?_
      refine WLd rfl ?_
      refine QXn ?_
      have hC188 := hC176.pick [0] [0, 1] rfl rfl
      refine fun a_ ha_ => hK107 _ _ _ ?_ ⟨i + 1, rfl, rfl, hC188, ho177, ho178, ho179, ho180, ho181, ho182, hf183, by omega⟩ a_ (ha_.weaken (sub_of ⟨rfl, rfl, rfl, rfl, rfl, rfl, rfl, rfl, rfl, rfl, rfl, trivial⟩))
      omega
    ·
     have t116 : (n5 : Int) ≤ (i : Int) := by have q_ := of_decide_eq_false t116b; omega
     refine WCf rfl ?_
     refine WC.exit ?_
     refine QXe ?_
     refine QXe ?_
     refine QX.block_hit ?_
     refine QXn (hK103 _ _ ?_)
     refine WCs (fun K189 hK190 => ?_)
     refine WCg (WLr 2 [(81, .int .i64 (k : Int)), (80, .slice ARz62 ((resC (vals (L.take (k + 1)))).length) cRz62)] (fun _ => by kernel_rfl) ?_)
     have hn195 := own_count cellsR_len (by decide) Rz62_m109
     obtain ⟨e191, he192⟩ := get_some (xs := (resC (vals (L.take (k + 1))))) (i := k) (by omega)
     obtain ⟨b193, hA194⟩ := own_addr (by decide) cellsR_len Rz62_m109 he192
     refine WLi ARz62 ((resC (vals (L.take (k + 1)))).length) cRz62 82 .i64 (k : Int) b193 0 k 5 (by kernel_rfl) hA194 (by omega) (by omega) (k * 5) (by first | (simp; done) | omega) ?_
     refine WLr 1 [(83, .pointer (some ⟨b193, k * 5 + 1, none⟩))] (fun _ => by kernel_rfl) ?_
     refine WL.load 43 (.pointer (some ⟨b193, k * 5 + 1, none⟩)) (.agg #[.int .u32 e191.lease.vip, .int .i64 e191.lease.first, .int .u32 e191.lease.dip, .int .i64 e191.lease.exp]) 84 (by kernel_rfl) (run_rdN (l := [.int .u32 e191.lease.vip, .int .i64 e191.lease.first, .int .u32 e191.lease.dip, .int .i64 e191.lease.exp]) rfl rfl (fun j u hu => by have hq_ := Rd.cell (own_rd Rz62_m109 cellsR_len (by decide)) hA194 he192 (1 + j) u (by first | (simpa using hu; done) | (rw [Nat.add_comm]; exact hu)); simpa [Nat.add_assoc] using hq_)) ?_
     refine WLr 1 [(85, .agg #[.int .u32 0, .int .i64 0, .int .u32 0, .int .i64 0])] (fun _ => by kernel_rfl) ?_
     have hr196 : ∀ w_, Sem.run Tryd.prog (do eqGuard .neq 43 (Operand.tmp 84) (Operand.tmp 85) (.agg #[.int .u32 e191.lease.vip, .int .i64 e191.lease.first, .int .u32 e191.lease.dip, .int .i64 e191.lease.exp]) (.agg #[.int .u32 0, .int .i64 0, .int .u32 0, .int .i64 0]); binOp .neq 43 (.agg #[.int .u32 e191.lease.vip, .int .i64 e191.lease.first, .int .u32 e191.lease.dip, .int .i64 e191.lease.exp]) (.agg #[.int .u32 0, .int .i64 0, .int .u32 0, .int .i64 0])) w_ = .ok (.bool (!(e191.lease.vip == (0 : Int) && (e191.lease.first == (0 : Int) && (e191.lease.dip == (0 : Int) && (e191.lease.exp == (0 : Int) && true)))))) w_ := fun w_ => (run_neq_S (by kernel_rfl))
     refine WL.sem (do eqGuard .neq 43 (Operand.tmp 84) (Operand.tmp 85) (.agg #[.int .u32 e191.lease.vip, .int .i64 e191.lease.first, .int .u32 e191.lease.dip, .int .i64 e191.lease.exp]) (.agg #[.int .u32 0, .int .i64 0, .int .u32 0, .int .i64 0]); binOp .neq 43 (.agg #[.int .u32 e191.lease.vip, .int .i64 e191.lease.first, .int .u32 e191.lease.dip, .int .i64 e191.lease.exp]) (.agg #[.int .u32 0, .int .i64 0, .int .u32 0, .int .i64 0])) 86 (.bool (!(e191.lease.vip == (0 : Int) && (e191.lease.first == (0 : Int) && (e191.lease.dip == (0 : Int) && (e191.lease.exp == (0 : Int) && true)))))) (by kernel_rfl) (hr196 _) ?_
     refine WLt (show (.bool (!(e191.lease.vip == (0 : Int) && (e191.lease.first == (0 : Int) && (e191.lease.dip == (0 : Int) && (e191.lease.exp == (0 : Int) && true))))) : Value) = .bool (!decide (e191.lease = noL)) from congrArg (fun b_ => Value.bool (!b_)) (lease_beq e191.lease noL)) ?_
     refine WLd rfl (QXn (hK190 _ _ ?_))
     refine WCa 86 (!decide (e191.lease = noL)) rfl (fun t197b => ?_) (fun t197b => ?_)
     ·
      have t197 : (decide (e191.lease = noL)) = false := by first | (simpa only [Bool.not_eq_true', Bool.not_eq_false'] using t197b) | simpa using t197b
      refine WCt rfl ?_
      refine WCg (WLr 3 [(89, .int .i64 (k : Int)), (88, .slice ARz62 ((resC (vals (L.take (k + 1)))).length) cRz62), (87, .slice A5 n5 c5)] (fun _ => by kernel_rfl) ?_)
      refine WLi ARz62 ((resC (vals (L.take (k + 1)))).length) cRz62 90 .i64 (k : Int) b193 0 k 5 (by kernel_rfl) hA194 (by omega) (by omega) (k * 5) (by first | (simp; done) | omega) ?_
      refine WLr 1 [(91, .pointer (some ⟨b193, k * 5 + 1, none⟩))] (fun _ => by kernel_rfl) ?_
      refine WL.load 43 (.pointer (some ⟨b193, k * 5 + 1, none⟩)) (.agg #[.int .u32 e191.lease.vip, .int .i64 e191.lease.first, .int .u32 e191.lease.dip, .int .i64 e191.lease.exp]) 92 (by kernel_rfl) (run_rdN (l := [.int .u32 e191.lease.vip, .int .i64 e191.lease.first, .int .u32 e191.lease.dip, .int .i64 e191.lease.exp]) rfl rfl (fun j u hu => by have hq_ := Rd.cell (own_rd Rz62_m109 cellsR_len (by decide)) hA194 he192 (1 + j) u (by first | (simpa using hu; done) | (rw [Nat.add_comm]; exact hu)); simpa [Nat.add_assoc] using hq_)) ?_
      refine WL.newM hC111 (fun b => .slice (some ⟨b, 0, none⟩) 1 1) (.cells #[.int .u32 e191.lease.vip, .int .i64 e191.lease.first, .int .u32 e191.lease.dip, .int .i64 e191.lease.exp] 43) 93 (fun _ => by kernel_rfl) (fun g202 w203 hb206 hF204 hC205 => ?_)
      have ho207 := own_fr given_m109 hF204 (by simp)
      have hf213 := svcsIn.fr inz62_m109 hF204 (by simp)
      obtain ⟨v214, w215, hr216, ho217, hF218, hC219, hnil220, hsub221⟩ := app_run Tryd.prog hC205 0 (v := .slice A5 n5 c5) rfl 29 29 43 4 32 n5 1 1 (some ⟨g202, 0, none⟩) rfl ho207 [.int .u32 e191.lease.vip, .int .i64 e191.lease.first, .int .u32 e191.lease.dip, .int .i64 e191.lease.exp] rfl (srcOk.blk 1 (hC205.get 1 rfl)) rfl (by simp only [maxLen]; omega) (by omega)
      have ho225 := own_snoc (enc := encL) (ys := (giveL (resC (vals (L.take k))))) e191.lease ho217
      obtain ⟨A222, c223, rfl, hle224⟩ := own_form ho225
      refine WL.sem (Builtin.append_ #[29, 29] 29 #[.slice A5 n5 c5, .slice (some ⟨g202, 0, none⟩) 1 1]) 94 (.slice A222 (n5 + 1) c223) (by kernel_rfl) hr216 ?_
      have hf231 := svcsIn.fr hf213 hF218 (hC205.disj 1 0 rfl rfl (by decide))
      refine WLr 1 [(3, .slice A222 (n5 + 1) c223)] (fun _ => by kernel_rfl) ?_
      refine WLd rfl ?_
      refine QXb ?_
      refine QXn (hK48 _ _ ?_)
      refine WCg (WLr 1 [(95, .int .i64 (IntKind.i64.wrap ((k : Int) + 1)))] (fun _ => by kernel_rfl) ?_)
      refine WLt (show (.int .i64 (IntKind.i64.wrap ((k : Int) + 1)) : Value) = .int .i64 ((k : Int) + 1) from by rw [wrap_in_i64 ((k : Int) + 1) (by omega) (by omega)]) ?_
      refine WLr 1 [(23, .int .i64 ((k : Int) + 1))] (fun _ => by kernel_rfl) ?_
      refine WLd rfl ?_
      refine QXn ?_
      have hC232 := hC219.pick [] [0] rfl rfl
      refine fun a_ ha_ => hK37 _ _ _ ?_ ⟨k + 1, A222, n5 + 1, c223, rfl, rfl, hC232, by rw [give_step hkl_ he192, give_yes (by simpa using t197b)]; exact ho225, by omega⟩ a_ (ha_.weaken (sub_of ⟨rfl, rfl, rfl, rfl, rfl, trivial⟩))
      omega
     ·
      have t197 : (decide (e191.lease = noL)) = true := by first | (simpa only [Bool.not_eq_true', Bool.not_eq_false'] using t197b) | simpa using t197b
      refine WCf rfl (WC.skip ?_)
      refine QXb ?_
      refine QXn (hK48 _ _ ?_)
      refine WCg (WLr 1 [(95, .int .i64 (IntKind.i64.wrap ((k : Int) + 1)))] (fun _ => by kernel_rfl) ?_)
      refine WLt (show (.int .i64 (IntKind.i64.wrap ((k : Int) + 1)) : Value) = .int .i64 ((k : Int) + 1) from by rw [wrap_in_i64 ((k : Int) + 1) (by omega) (by omega)]) ?_
      refine WLr 1 [(23, .int .i64 ((k : Int) + 1))] (fun _ => by kernel_rfl) ?_
      refine WLd rfl ?_
      refine QXn ?_
      have hC233 := hC111.pick [] [0] rfl rfl
      refine fun a_ ha_ => hK37 _ _ _ ?_ ⟨k + 1, A5, n5, c5, rfl, rfl, hC233, by rw [give_step hkl_ he192, give_no (by simpa using t197b), List.append_nil]; exact given_m109, by omega⟩ a_ (ha_.weaken (sub_of ⟨rfl, rfl, rfl, rfl, rfl, trivial⟩))
      omega
   ·
    have t46 : (L.length : Int) ≤ (k : Int) := by have q_ := of_decide_eq_false t46b; omega
    refine WCf rfl ?_
    refine WC.exit ?_
    refine QXe ?_
    refine QXe ?_
    refine QX.block_hit ?_
    refine QXn (hK31 _ _ ?_)
    refine WCs (fun K234 hK235 => ?_)
    refine WCg (WLr 1 [(2, .bool true)] (fun _ => by kernel_rfl) (WLd rfl (QXn (hK235 _ _ ?_))))
    refine WC.ret ?_
    refine (hret _ _ _ rfl ?_).1
    exact ⟨rfl, hC41.fr⟩

end Go.Proofs.YtfligklljkcbfaaDoor
