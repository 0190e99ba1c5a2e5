/- Contracts of functions of the program, each proved by a walk through its code; conditions stand in the statements. -/
import Derived.Test.YtibkndhgeeoidaaRgT
namespace Go.Proofs.Ytibkndhgeeoidaa
set_option linter.unusedSimpArgs false
set_option linter.unusedVariables false
set_option linter.unusedSectionVars false
open Go Go.RowKit Go.Tw
set_option linter.unusedVariables false
set_option maxRecDepth 20000
set_option maxHeartbeats 1000000 in
theorem RingChanges_ct (per : Int) (A : Option Addr) (c : Nat) (M : List Int) (key n : Int) (B : Option Addr) (cB : Nat) (X : List Int) (D : Option Addr) (cD : Nat) (K : List Int) (w : World) (hr : Rd w 1 (Go.Tw.encI .i64) A M) (hrX : Rd w 1 (Go.Tw.encI .i64) B X) (hrK : Rd w 1 (Go.Tw.encI .i64) D K) (hl : M.length ≤ 9223372036854775807) : Calls Try.prog 8 #[.agg #[.int .i64 per, .slice A M.length c, .int .u64 key, .int .i64 n], .slice B X.length cB, .slice D K.length cD] w fun e w' => e = .returned (.bool true) ∧ Fr w w' [] := by
 refine enterD (n := 141) Try.func8 rfl rfl (Nat.le_of_ble_eq_true rfl) ?_
 intro Q0 hN hret hret'
 have hC := Cx.start w
 refine WCs (fun K1 hK2 => ?_)
 refine WCg ?_
 refine WL.newM hC (fun b => .pointer (some ⟨b, 0, none⟩)) (.cells #[.int .i64 per, .slice A M.length c, .int .u64 key, .int .i64 n] 34) 3 (fun _ => by kernel_rfl) (fun g3 w4 hb7 hF5 hC6 => ?_)
 refine WLq 1 [(6, .bool false)] (WLd rfl (QXn (hK2 _ _ ?_)))
 refine WCs (fun K8 hK9 => ?_)
 refine WCs (fun jh g8 => ?_)
 refine WCg ?_
 refine WLc rfl rfl rfl rfl rfl (by kernel_rfl) (alive_ct w4) ?_
 rintro _ iM ⟨rfl, g9⟩
 refine ⟨_, rfl, ?_⟩
 have aU := hC6.call g9
 refine WLq 1 [(16, .bool false)] (WLd rfl (QXn (g8 _ _ ?_)))
 refine WCf rfl (WC.skip (QXn (hK9 _ _ ?_)))
 refine WCs (fun ji ha => ?_)
 refine WCs (fun jj bI => ?_)
 refine WCg (WLq 1 [(17, .pointer (some ⟨g3, 1, none⟩))] ?_)
 refine WLo 31 (.pointer (some ⟨g3, 1, none⟩)) (.slice A M.length c) 18 (run_ld (aU.get 0 rfl) rfl) ?_
 refine WLq 3 [(21, .bool (decide ((M.length : Int) > 200))), (20, .bool (decide ((M.length : Int) > 200))), (19, .int .i64 (M.length : Int))] ?_
 refine WLa 21 (decide ((M.length : Int) > 200)) rfl (fun cv => ?_) (fun cv => ?_)
 ·
  have iN : (200 : Int) < (M.length : Int) := by have q_ := of_decide_eq_true cv; omega
  refine WLq 17 [(38, .bool true), (37, undef), (36, undef), (35, undef), (34, undef), (33, undef), (32, undef), (31, .bool true), (30, .bool true), (29, undef), (28, undef), (27, undef), (26, .bool true), (25, .bool true), (24, undef), (23, undef), (22, undef)] (WLd rfl (QXn (bI _ _ ?_)))
  refine WCt rfl ?_
  refine WCs (fun jk hb => ?_)
  refine WCg (WLq 1 [(6, .bool true)] (WLd rfl (QXn (hb _ _ ?_))))
  refine WC.ret ?_
  refine QXr ?_
  refine (hret _ _ _ rfl ?_).1
  exact ⟨rfl, aU.fr⟩
 ·
  have iN : (M.length : Int) ≤ 200 := by have q_ := of_decide_eq_false cv; omega
  refine WLq 5 [(26, .bool (decide ((X.length : Int) > 200))), (25, .bool (decide ((X.length : Int) > 200))), (24, .bool (decide ((X.length : Int) > 200))), (23, .int .i64 (X.length : Int)), (22, .slice B X.length cB)] ?_
  refine WLa 26 (decide ((X.length : Int) > 200)) rfl (fun cw => ?_) (fun cw => ?_)
  ·
   have iO : (200 : Int) < (X.length : Int) := by have q_ := of_decide_eq_true cw; omega
   refine WLq 12 [(38, .bool true), (37, undef), (36, undef), (35, undef), (34, undef), (33, undef), (32, undef), (31, .bool true), (30, .bool true), (29, undef), (28, undef), (27, undef)] (WLd rfl (QXn (bI _ _ ?_)))
   refine WCt rfl ?_
   refine WCs (fun jl hc => ?_)
   refine WCg (WLq 1 [(6, .bool true)] (WLd rfl (QXn (hc _ _ ?_))))
   refine WC.ret ?_
   refine QXr ?_
   refine (hret _ _ _ rfl ?_).1
   exact ⟨rfl, aU.fr⟩
  ·
   have iO : (X.length : Int) ≤ 200 := by have q_ := of_decide_eq_false cw; omega
   refine WLq 5 [(31, .bool (decide ((K.length : Int) > 200))), (30, .bool (decide ((K.length : Int) > 200))), (29, .bool (decide ((K.length : Int) > 200))), (28, .int .i64 (K.length : Int)), (27, .slice D K.length cD)] ?_
   refine WLa 31 (decide ((K.length : Int) > 200)) rfl (fun cx => ?_) (fun cx => ?_)
   ·
    have iP : (200 : Int) < (K.length : Int) := by have q_ := of_decide_eq_true cx; omega
    refine WLq 7 [(38, .bool true), (37, undef), (36, undef), (35, undef), (34, undef), (33, undef), (32, undef)] (WLd rfl (QXn (bI _ _ ?_)))
    refine WCt rfl ?_
    refine WCs (fun jm hd => ?_)
    refine WCg (WLq 1 [(6, .bool true)] (WLd rfl (QXn (hd _ _ ?_))))
    refine WC.ret ?_
    refine QXr ?_
    refine (hret _ _ _ rfl ?_).1
    exact ⟨rfl, aU.fr⟩
   ·
    have iP : (K.length : Int) ≤ 200 := by have q_ := of_decide_eq_false cx; omega
    refine WLq 1 [(32, .pointer (some ⟨g3, 0, none⟩))] ?_
    refine WLo 3 (.pointer (some ⟨g3, 0, none⟩)) (.int .i64 per) 33 (run_ld (aU.get 0 rfl) rfl) ?_
    refine WLq 1 [(34, .pointer (some ⟨g3, 1, none⟩))] ?_
    refine WLo 31 (.pointer (some ⟨g3, 1, none⟩)) (.slice A M.length c) 35 (run_ld (aU.get 0 rfl) rfl) ?_
    refine WLc rfl rfl rfl rfl rfl (by kernel_rfl) (Good_n per A M.length c M iM (Rd.fr hr aU.fr) (by first | rfl | assumption | omega) (by first | omega | (simp; done) | (simp; omega))) ?_
    rintro _ iQ ⟨rfl, he⟩
    refine ⟨_, rfl, ?_⟩
    have bi := aU.call he
    refine WLq 2 [(38, .bool ((goodR per M) != 0)), (37, .bool ((goodR per M) != 0))] (WLd rfl (QXn (bI _ _ ?_)))
    refine WCa 38 ((goodR per M) != 0) rfl (fun cy => ?_) (fun cy => ?_)
    ·
     have iR : (goodR per M) ≠ 0 := by simpa using cy
     refine WCt rfl ?_
     refine WCs (fun jn hf => ?_)
     refine WCg (WLq 1 [(6, .bool true)] (WLd rfl (QXn (hf _ _ ?_))))
     refine WC.ret ?_
     refine QXr ?_
     refine (hret _ _ _ rfl ?_).1
     exact ⟨rfl, bi.fr⟩
    ·
     have iR : (goodR per M) = 0 := by simpa using cy
     refine WCf rfl (WC.skip (QXn (ha _ _ ?_)))
     refine WCs (fun jo hg => ?_)
     refine WCg (WLq 1 [(40, .pointer (some ⟨g3, 0, none⟩))] ?_)
     refine WLo 3 (.pointer (some ⟨g3, 0, none⟩)) (.int .i64 per) 41 (run_ld (bi.get 0 rfl) rfl) ?_
     refine WLq 1 [(42, .pointer (some ⟨g3, 1, none⟩))] ?_
     refine WLo 31 (.pointer (some ⟨g3, 1, none⟩)) (.slice A M.length c) 43 (run_ld (bi.get 0 rfl) rfl) ?_
     have hgl_ := good_len (show goodR per M = 0 by omega)
     refine WLc rfl rfl rfl rfl rfl (by kernel_rfl) (New_n per A M.length c M iQ (Rd.fr hr bi.fr) (by first | rfl | assumption | omega) (by first | omega | (simp; done) | (simp; omega))) ?_
     rintro _ iS ⟨a40, b41, rfl, hh, (⟨aT, rfl, rfl⟩ | ⟨aT, p43, G44, AP45, cP46, AM47, cM48, rfl, rfl, cP, hi⟩)⟩
     ·
      exact absurd (by omega) aT
     ·
      have cQ := bi.callN hh hi (RingR.lt cP)
      refine ⟨_, rfl, ?_⟩
      refine WLq 5 [(8, .nilIface), (7, .pointer (some ⟨p43, 0, none⟩)), (46, .nilIface), (45, .pointer (some ⟨p43, 0, none⟩)), (39, .tuple #[.pointer (some ⟨p43, 0, none⟩), .nilIface])] (WLd rfl (QXn (hg _ _ ?_)))
      refine WCs (fun jp hj => ?_)
      refine WCs (fun jq hk => ?_)
      refine WCg (WLq 6 [(52, .bool false), (51, .bool false), (50, .pointer (some ⟨p43, 0, none⟩)), (49, .bool false), (48, .bool false), (47, .nilIface)] (WLd rfl (QXn (hk _ _ ?_))))
      refine WCf rfl (WC.skip (QXn (hj _ _ ?_)))
      refine WCs (fun jr hm => ?_)
      refine WCg (WLq 1 [(53, .slice B X.length cB)] ?_)
      refine WLc rfl rfl rfl rfl rfl (by kernel_rfl) (mine_n B X.length cB X iS (Rd.fr hrX cQ.fr) rfl (by omega)) ?_
      rintro _ iT ⟨bO, be, rfl, cR, cz⟩
      have cA := cQ.callN cR (own_ge cz) (own_lt cz)
      refine ⟨_, rfl, ?_⟩
      rw [blk_n bO (X.length + 1) be (X.length) be] at cA
      have cC := own_base (b' := 0) cz (fun _ _ => Nat.zero_le _)
      have cS := own_takeE (m := X.length) (Go.Tw.encI_len _) cC (by omega)
      have iD := own_le cC
      rw [show List.take X.length (X ++ [(-77 : Int)]) = X from by simp] at cS
      have hn := RingR.fr cP cR (by simp)
      refine WLq 1 [(55, .slice D K.length cD)] ?_
      refine WLc rfl rfl rfl rfl rfl (by kernel_rfl) (mine_n D K.length cD K iT (Rd.fr hrK cA.fr) rfl (by omega)) ?_
      rintro _ iU ⟨bH, aZ, rfl, bJ, cE⟩
      have cF := cA.callN bJ (own_ge cE) (own_lt cE)
      refine ⟨_, rfl, ?_⟩
      rw [blk_n bH (K.length + 1) aZ (K.length) aZ] at cF
      have bK := own_base (b' := 0) cE (fun _ _ => Nat.zero_le _)
      have cG := own_takeE (m := K.length) (Go.Tw.encI_len _) bK (by omega)
      have iE := own_le bK
      rw [show List.take K.length (K ++ [(-77 : Int)]) = K from by simp] at cG
      have cH := RingR.fr hn bJ (by simp)
      have bL := own_fr cS bJ (by simp)
      have cT := own_fr cC bJ (by simp)
      refine WLq 2 [(10, .slice bH K.length aZ), (9, .slice bO X.length be)] (WLd rfl (QXn (hm _ _ ?_)))
      refine WCs (fun js cU => ?_)
      refine WCg (WLq 2 [(59, .slice bO X.length be), (58, .pointer (some ⟨p43, 0, none⟩))] ?_)
      have hql_ := good_len aT
      refine WLc rfl rfl rfl rfl rfl (by kernel_rfl) (With_n G44 p43 per AP45 cP46 (ringP per M) AM47 cM48 (sortI M) bO X.length be X iU cH (by rw [sortI_len]; omega) (own_rd bL (Go.Tw.encI_len _) (by decide)) (own_count (Go.Tw.encI_len _) (by decide) bL) (by first | omega | (simp; done) | (simp; omega))) ?_
      rintro _ jt ⟨a98, b99, rfl, ay, (⟨bf, rfl, rfl⟩ | ⟨bf, p90, G91, AP92, cP93, AM94, cM95, rfl, rfl, cV, ho⟩)⟩
      ·
       have cI := cF.call ay
       refine ⟨_, rfl, ?_⟩
       have cW := RingR.fr cH ay (by simp)
       have cX := own_fr bL ay (by simp)
       have cY := own_fr cT ay (by simp)
       have cZ := own_fr cG ay (by simp)
       have c3 := own_fr bK ay (by simp)
       refine WLq 5 [(8, errV 62 (goodR per (sortI M ++ X))), (11, .pointer none), (62, errV 62 (goodR per (sortI M ++ X))), (61, .pointer none), (57, .tuple #[.pointer none, errV 62 (goodR per (sortI M ++ X))])] (WLd rfl (QXn (cU _ _ ?_)))
       refine WCs (fun iV c4 => ?_)
       refine WCg ?_
       refine WL.newM cI (fun b => .slice (some ⟨b, 0, none⟩) 0 0) (.cells #[] 3) 63 (fun _ => by kernel_rfl) (fun cJ hp iF aV bj => ?_)
       have c5 := RingR.fr cW aV (by simp)
       have c6 := own_fr cX aV (by simp)
       have c7 := own_fr cY aV (by simp)
       have c8 := own_fr cZ aV (by simp)
       have c9 := own_fr c3 aV (by simp)
       refine WLq 1 [(64, .pointer (some ⟨g3, 1, none⟩))] ?_
       refine WLo 31 (.pointer (some ⟨g3, 1, none⟩)) (.slice A M.length c) 65 (run_ld (bj.get 0 rfl) rfl) ?_
       have da : World.ownsRow hp 0 3 1 (.slice (some ⟨cJ, 0, none⟩) 0 0) 0 [] := own_of_blk (Nat.zero_le _) (bj.get 1 rfl) (Nat.le_refl _) (Nat.zero_le _) (by simp) rfl
       have az := bj.toF 1 rfl
       obtain ⟨iW, iX, db, dc, aW, aA, gZ, g0⟩ := app_run Try.prog az 3 (v := .slice (some ⟨cJ, 0, none⟩) 0 0) rfl 31 31 3 1 8 0 M.length c A rfl da (M.flatMap (Go.Tw.encI .i64)) (flat_len_n (Go.Tw.encI_len _) (by first | rfl | assumption | (simp; done) | (simp; omega))) (Rd.src_n (Rd.fr hr az.fr) (Go.Tw.encI_len _) (by decide) (by first | rfl | assumption | (simp; done) | (simp; omega))) (flat_one (Go.Tw.encI_one _) _) (by simp only [maxLen]; omega) (by omega)
       have bP := own_app (enc := (Go.Tw.encI .i64)) (ys := []) (zs := M) dc
       obtain ⟨cK, cL, rfl, hq⟩ := own_form bP
       refine WL.sem (Builtin.append_ #[31, 31] 31 #[.slice (some ⟨cJ, 0, none⟩) 0 0, .slice A M.length c]) 66 (.slice cK (0 + M.length) cL) (by kernel_rfl) db ?_
       have dd := RingR.fr c5 aW (az.disj 0 3 rfl rfl (by decide))
       have de := own_fr c6 aW (az.disj 1 3 rfl rfl (by decide))
       have df := own_fr c7 aW (blk_al (n1 := X.length) (c1 := be) (az.disj 1 3 rfl rfl (by decide)))
       have dg := own_fr c8 aW (az.disj 2 3 rfl rfl (by decide))
       have dh := own_fr c9 aW (blk_al (n1 := K.length) (c1 := aZ) (az.disj 2 3 rfl rfl (by decide)))
       refine WLq 1 [(67, .slice B X.length cB)] ?_
       obtain ⟨iY, hs, di, dj, aX, bQ, g1, g2⟩ := app_run Try.prog aA 3 (v := .slice cK (0 + M.length) cL) rfl 31 31 3 1 8 (0 + M.length) X.length cB B rfl bP (X.flatMap (Go.Tw.encI .i64)) (flat_len_n (Go.Tw.encI_len _) (by first | rfl | assumption | (simp; done) | (simp; omega))) (Rd.src_n (Rd.fr hrX aA.fr) (Go.Tw.encI_len _) (by decide) (by first | rfl | assumption | (simp; done) | (simp; omega))) (flat_one (Go.Tw.encI_one _) _) (by simp only [maxLen]; omega) (by omega)
       have bk := own_app (enc := (Go.Tw.encI .i64)) (ys := [] ++ M) (zs := X) dj
       obtain ⟨bM, bN, rfl, ht⟩ := own_form bk
       refine WL.sem (Builtin.append_ #[31, 31] 31 #[.slice cK (0 + M.length) cL, .slice B X.length cB]) 68 (.slice bM (0 + M.length + X.length) bN) (by kernel_rfl) di ?_
       have dk := RingR.fr dd aX (aA.disj 0 3 rfl rfl (by decide))
       have dl := own_fr de aX (aA.disj 1 3 rfl rfl (by decide))
       have dm := own_fr df aX (blk_al (n1 := X.length) (c1 := be) (aA.disj 1 3 rfl rfl (by decide)))
       have dn := own_fr dg aX (aA.disj 2 3 rfl rfl (by decide))
       have dp := own_fr dh aX (blk_al (n1 := K.length) (c1 := aZ) (aA.disj 2 3 rfl rfl (by decide)))
       refine WLq 1 [(12, .slice bM (0 + M.length + X.length) bN)] (WLd rfl (QXn (c4 _ _ ?_)))
       refine WCs (fun iZ dq => ?_)
       refine WCg (WLq 1 [(69, .pointer (some ⟨g3, 0, none⟩))] ?_)
       refine WLo 3 (.pointer (some ⟨g3, 0, none⟩)) (.int .i64 per) 70 (run_ld (bQ.get 0 rfl) rfl) ?_
       refine WLq 1 [(71, .slice bM (0 + M.length + X.length) bN)] ?_
       refine WLc rfl rfl rfl rfl rfl (by kernel_rfl) (Good_n per bM (0 + M.length + X.length) bN ([] ++ M ++ X) hs (own_rd bk (Go.Tw.encI_len _) (by decide)) (own_count (Go.Tw.encI_len _) (by decide) bk) (by first | omega | (simp; done) | (simp; omega))) ?_
       rintro _ hu ⟨rfl, aH⟩
       refine ⟨_, rfl, ?_⟩
       have dr := bQ.call aH
       have ds := RingR.fr dk aH (by simp)
       have dt := own_fr dl aH (by simp)
       have du := own_fr dm aH (by simp)
       have dv := own_fr dn aH (by simp)
       have dw := own_fr dp aH (by simp)
       refine WLt (show (.int .i64 (goodR per ([] ++ M ++ X)) : Value) = .int .i64 (goodR per (sortI M ++ X)) from congrArg (Value.int .i64) (with_good per M X)) ?_
       refine WLq 1 [(13, .int .i64 (goodR per (sortI M ++ X)))] (WLd rfl (QXn (dq _ _ ?_)))
       refine WCs (fun i0 dx => ?_)
       refine WCs (fun i1 dy => ?_)
       refine WCg (WLq 1 [(73, errV 62 (goodR per (sortI M ++ X)))] ?_)
       refine WLc rfl rfl rfl rfl rfl (by kernel_rfl) (Num_er (goodR per (sortI M ++ X)) hu bf) ?_
       rintro _ hv ⟨rfl, aI⟩
       refine ⟨_, rfl, ?_⟩
       have dz := dr.call aI
       have bR := RingR.fr ds aI (by simp)
       have dA := own_fr dt aI (by simp)
       have dB := own_fr du aI (by simp)
       have bl := own_fr dv aI (by simp)
       have dC := own_fr dw aI (by simp)
       refine WLq 3 [(77, .bool ((goodR per (sortI M ++ X)) != (goodR per (sortI M ++ X)))), (76, .bool ((goodR per (sortI M ++ X)) != (goodR per (sortI M ++ X)))), (75, .int .i64 (goodR per (sortI M ++ X)))] ?_
       refine WL.know 77 (.bool ((goodR per (sortI M ++ X)) != (goodR per (sortI M ++ X)))) (.bool false) rfl (congrArg Value.bool (by simp)) ?_
       refine WLq 3 [(80, .bool ((goodR per (sortI M ++ X)) == 0)), (79, .bool ((goodR per (sortI M ++ X)) == 0)), (78, .int .i64 (goodR per (sortI M ++ X)))] ?_
       refine WL.know 80 (.bool ((goodR per (sortI M ++ X)) == 0)) (.bool false) rfl (congrArg Value.bool (by simpa using bf)) ?_
       refine WLq 16 [(96, .bool ((goodR per (sortI M ++ X)) != 0)), (95, .bool ((goodR per (sortI M ++ X)) != 0)), (94, .int .i64 (goodR per (sortI M ++ X))), (93, .bool false), (92, .bool false), (91, .bool false), (90, undef), (89, undef), (88, undef), (87, undef), (86, undef), (85, undef), (84, undef), (83, undef), (82, undef), (81, undef)] ?_
       refine WL.know 96 (.bool ((goodR per (sortI M ++ X)) != 0)) (.bool true) rfl (congrArg Value.bool (by simpa using bf)) ?_
       refine WLq 4 [(100, .bool false), (99, .bool false), (98, .bool false), (97, .pointer none)] (WLd rfl (QXn (dy _ _ ?_)))
       refine WCf rfl (WC.skip (QXn (dx _ _ ?_)))
       refine WCs (fun i2 dD => ?_)
       refine WCg (WLq 2 [(103, .slice bH K.length aZ), (102, .pointer (some ⟨p43, 0, none⟩))] ?_)
       have hql_ := good_len aT
       refine WLc rfl rfl rfl rfl rfl (by kernel_rfl) (Without_n G44 p43 per AP45 cP46 (ringP per M) AM47 cM48 (sortI M) bH K.length aZ K hv bR (by rw [sortI_len]; omega) (own_rd bl (Go.Tw.encI_len _) (by decide)) (own_count (Go.Tw.encI_len _) (by decide) bl) (by first | omega | (simp; done) | (simp; omega))) ?_
       rintro _ i3 ⟨a192, b193, rfl, aJ, (⟨bm, rfl, rfl⟩ | ⟨bm, p184, G185, AP186, cP187, AM188, cM189, rfl, rfl, bS, dE⟩)⟩
       ·
        exact absurd (good_out (K := K) aT) bm
       ·
        have dF := dz.callN aJ dE (RingR.lt bS)
        refine ⟨_, rfl, ?_⟩
        have dG := RingR.fr bR aJ (by simp)
        have dH := own_fr dA aJ (by simp)
        have dI := own_fr dB aJ (by simp)
        have dJ := own_fr bl aJ (by simp)
        have dK := own_fr dC aJ (by simp)
        refine WLq 5 [(8, .nilIface), (14, .pointer (some ⟨p184, 0, none⟩)), (106, .nilIface), (105, .pointer (some ⟨p184, 0, none⟩)), (101, .tuple #[.pointer (some ⟨p184, 0, none⟩), .nilIface])] (WLd rfl (QXn (dD _ _ ?_)))
        refine WCs (fun i4 dL => ?_)
        refine WC.drawC dF [] (by kernel_rfl) (fun hw aK bn aa => ?_)
        have dM := RingR.fr dG aK (by simp)
        have dN := own_fr dH aK (by simp)
        have dO := own_fr dI aK (by simp)
        have dP := own_fr dJ aK (by simp)
        have dQ := own_fr dK aK (by simp)
        have bT := RingR.fr bS aK (by simp)
        refine WDq (NPt hN) 0 107 (.nilIface) aa ?_
        refine WDq (NPt hN) 1 108 (.bool true) aa ?_
        refine WDq (NPt hN) 2 109 (.bool true) aa ?_
        refine WDq (NPt hN) 3 110 (.pointer (some ⟨p184, 0, none⟩)) aa ?_
        refine WDq (NPt hN) 4 111 (.bool true) aa ?_
        refine WDq (NPt hN) 5 112 (.bool true) aa ?_
        refine WDq (NPt hN) 6 113 (.bool true) aa ?_
        refine WDq (NPt hN) 7 114 (.pointer (some ⟨p184, 0, none⟩)) aa ?_
        refine WDq (NPt hN) 9 116 (.pointer (some ⟨g3, 1, none⟩)) aa ?_
        refine WDq (NPt hN) 11 118 (.slice D K.length cD) aa ?_
        refine WDm (NPt hN) 10 31 (.pointer (some ⟨g3, 1, none⟩)) (.slice A M.length c) 117 (fun _ hS_ => run_ld (Fr.has hS_ (bn.get 0 rfl) (by simp)) rfl) aa ?_
        have hgl_ := good_len bm
        refine WD.call 8 (by kernel_rfl) rfl rfl rfl rfl rfl (by kernel_rfl) (Members_ct G185 p184 per AP186 cP187 (ringP per (outK K (sortI M))) AM188 cM189 (sortI (outK K (sortI M))) hw bT (by rw [sortI_len]; omega)) ?_
        rintro _ hx ⟨v_, rfl, am, a0⟩
        have bo := bn.callN am (own_ge a0) (own_lt a0)
        obtain ⟨hy, hz, rfl, hA⟩ := own_form a0
        have dR := own_base (b' := 0) a0 (fun _ _ => Nat.zero_le _)
        have bU := aa.trans am (by simp)
        refine ⟨_, rfl, bU, ?_⟩
        have dS := RingR.fr dM am (by simp)
        have dT := own_fr dN am (by simp)
        have dU := own_fr dO am (by simp)
        have dV := own_fr dP am (by simp)
        have dW := own_fr dQ am (by simp)
        have dX := RingR.fr bT am (by simp)
        have hol_ : (outK K M).length ≤ List.length M := List.length_filter_le _ _
        refine WD.call 12 (by kernel_rfl) rfl rfl rfl rfl rfl (by kernel_rfl) (RWithout_n A M.length c M D K.length cD K hx (Rd.fr hr bo.fr) (by first | rfl | assumption | omega) (by first | omega | (simp; done) | (simp; omega)) (Rd.fr hrK bo.fr) (by first | rfl | assumption | omega) (by first | omega | (simp; done) | (simp; omega))) ?_
        rintro _ hB ⟨v_, rfl, af, a1⟩
        have dY := bo.callN af (own_ge a1) (own_lt a1)
        obtain ⟨hD, hE, rfl, hF⟩ := own_form a1
        have bV := own_base (b' := 0) a1 (fun _ _ => Nat.zero_le _)
        have bW := bU.trans af (by simp)
        refine ⟨_, rfl, bW, ?_⟩
        have dZ := RingR.fr dS af (by simp)
        have d0 := own_fr dT af (by simp)
        have d1 := own_fr dU af (by simp)
        have d2 := own_fr dV af (by simp)
        have d3 := own_fr dW af (by simp)
        have d4 := RingR.fr dX af (by simp)
        have d5 := own_fr dR af (by simp)
        refine WD.call 13 (by kernel_rfl) rfl rfl rfl rfl rfl (by kernel_rfl) (RSorted_n hD ((outK K M).length) hE (outK K M) hB (own_rd bV (Go.Tw.encI_len _) (by decide)) (own_count (Go.Tw.encI_len _) (by decide) bV) (by first | omega | (simp; done) | (simp; omega))) ?_
        rintro _ hG ⟨v_, rfl, ag, a2⟩
        have d6 := dY.callN ag (own_ge a2) (own_lt a2)
        obtain ⟨hH, hI, rfl, hJ⟩ := own_form a2
        have bp := own_base (b' := 0) a2 (fun _ _ => Nat.zero_le _)
        have bX := bW.trans ag (by simp)
        refine ⟨_, rfl, bX, ?_⟩
        have d7 := RingR.fr dZ ag (by simp)
        have d8 := own_fr d0 ag (by simp)
        have d9 := own_fr d1 ag (by simp)
        have ea := own_fr d2 ag (by simp)
        have eb := own_fr d3 ag (by simp)
        have ec := RingR.fr d4 ag (by simp)
        have bq := own_fr d5 ag (by simp)
        refine WD.call 14 (by kernel_rfl) rfl rfl rfl rfl rfl (by kernel_rfl) (Ints_n hy hH ((sortI (outK K (sortI M))).length) hz ((outK K M).length) hI (sortI (outK K (sortI M))) (sortI (outK K M)) hG (own_rd bq (Go.Tw.encI_len _) (by decide)) (own_count (Go.Tw.encI_len _) (by decide) bq) (own_rd bp (Go.Tw.encI_len _) (by decide)) (own_count (Go.Tw.encI_len _) (by decide) bp) (own_max bq) (own_max bp)) ?_
        rintro _ hK ⟨rfl, an⟩
        have aB := bX.trans an (by simp)
        refine ⟨_, rfl, aB, ?_⟩
        have ed := d6.call an
        have bY := RingR.fr d7 an (by simp)
        have ee := own_fr d8 an (by simp)
        have ef := own_fr d9 an (by simp)
        have eg := own_fr ea an (by simp)
        have eh := own_fr eb an (by simp)
        have ei := RingR.fr ec an (by simp)
        refine WDq (NPt hN) 15 122 (.bool (decide ((sortI (outK K (sortI M))) = (sortI (outK K M))))) aB ?_
        refine WDq (NPt hN) 16 123 (.bool (decide ((sortI (outK K (sortI M))) = (sortI (outK K M))))) aB ?_
        refine WD.know 123 (.bool (decide ((sortI (outK K (sortI M))) = (sortI (outK K M))))) (.bool true) rfl (congrArg Value.bool (by exact decide_eq_true (out_sort K M))) ?_
        refine WDq (NPt hN) 17 124 (.pointer (some ⟨p43, 0, none⟩)) aB ?_
        refine WDq (NPt hN) 19 126 (.pointer (some ⟨g3, 1, none⟩)) aB ?_
        refine WDm (NPt hN) 20 31 (.pointer (some ⟨g3, 1, none⟩)) (.slice A M.length c) 127 (fun _ hS_ => run_ld (Fr.has hS_ (bn.get 0 rfl) (by simp)) rfl) aB ?_
        have hgl_ := good_len aT
        refine WD.call 18 (by kernel_rfl) rfl rfl rfl rfl rfl (by kernel_rfl) (Members_ct G44 p43 per AP45 cP46 (ringP per M) AM47 cM48 (sortI M) hK bY (by rw [sortI_len]; omega)) ?_
        rintro _ hL ⟨v_, rfl, ao, a3⟩
        have bZ := ed.callN ao (own_ge a3) (own_lt a3)
        obtain ⟨hM, hO, rfl, hP⟩ := own_form a3
        have ej := own_base (b' := 0) a3 (fun _ _ => Nat.zero_le _)
        have b0 := aB.trans ao (by simp)
        refine ⟨_, rfl, b0, ?_⟩
        have ek := RingR.fr bY ao (by simp)
        have em := own_fr ee ao (by simp)
        have en := own_fr ef ao (by simp)
        have eo := own_fr eg ao (by simp)
        have ep := own_fr eh ao (by simp)
        have er := RingR.fr ei ao (by simp)
        refine WD.call 21 (by kernel_rfl) rfl rfl rfl rfl rfl (by kernel_rfl) (RSorted_n A M.length c M hL (Rd.fr hr bZ.fr) (by first | rfl | assumption | omega) (by first | omega | (simp; done) | (simp; omega))) ?_
        rintro _ hQ ⟨v_, rfl, ah, a4⟩
        have es := bZ.callN ah (own_ge a4) (own_lt a4)
        obtain ⟨hR, hS, rfl, hT⟩ := own_form a4
        have br := own_base (b' := 0) a4 (fun _ _ => Nat.zero_le _)
        have b1 := b0.trans ah (by simp)
        refine ⟨_, rfl, b1, ?_⟩
        have et := RingR.fr ek ah (by simp)
        have eu := own_fr em ah (by simp)
        have ev := own_fr en ah (by simp)
        have ew := own_fr eo ah (by simp)
        have ex := own_fr ep ah (by simp)
        have ey := RingR.fr er ah (by simp)
        have bs := own_fr ej ah (by simp)
        refine WD.call 22 (by kernel_rfl) rfl rfl rfl rfl rfl (by kernel_rfl) (Ints_n hM hR ((sortI M).length) hO M.length hS (sortI M) (sortI M) hQ (own_rd bs (Go.Tw.encI_len _) (by decide)) (own_count (Go.Tw.encI_len _) (by decide) bs) (own_rd br (Go.Tw.encI_len _) (by decide)) (own_count (Go.Tw.encI_len _) (by decide) br) (own_max bs) (own_max br)) ?_
        rintro _ hU ⟨rfl, ap⟩
        have aL := b1.trans ap (by simp)
        refine ⟨_, rfl, aL, ?_⟩
        have b2 := es.call ap
        have ez := RingR.fr et ap (by simp)
        have b3 := own_fr eu ap (by simp)
        have b5 := own_fr ev ap (by simp)
        have eA := own_fr ew ap (by simp)
        have eB := own_fr ex ap (by simp)
        have eC := RingR.fr ey ap (by simp)
        refine WDq (NPt hN) 23 130 (.bool (decide ((sortI M) = (sortI M)))) aL ?_
        refine WDq (NPt hN) 24 131 (.bool (decide ((sortI M) = (sortI M)))) aL ?_
        refine WD.know 131 (.bool (decide ((sortI M) = (sortI M)))) (.bool true) rfl (congrArg Value.bool (by simp)) ?_
        refine WDq (NPt hN) 25 132 (.slice bO X.length be) aL ?_
        refine WDq (NPt hN) 26 133 (.slice B X.length cB) aL ?_
        have hle_ := own_le b5
        refine WD.call 27 (by kernel_rfl) rfl rfl rfl rfl rfl (by kernel_rfl) (kept_n bO B X.length be X.length cB X hU (own_rd b3 (Go.Tw.encI_len _) (by decide)) (own_rd b5 (Go.Tw.encI_len _) (by decide)) (own_count (Go.Tw.encI_len _) (by decide) b3) (Rd.fr hrX b2.fr) (by first | rfl | assumption | omega) (by omega) (by omega)) ?_
        rintro _ hV ⟨rfl, aM⟩
        have aN := aL.trans aM (by simp)
        refine ⟨_, rfl, aN, ?_⟩
        have b6 := b2.call aM
        have eD := RingR.fr ez aM (by simp)
        have b7 := own_fr eA aM (by simp)
        have b9 := own_fr eB aM (by simp)
        have eE := RingR.fr eC aM (by simp)
        refine WDq (NPt hN) 28 135 (.bool true) aN ?_
        refine WDq (NPt hN) 29 136 (.bool true) aN ?_
        refine WDq (NPt hN) 30 137 (.slice bH K.length aZ) aN ?_
        refine WDq (NPt hN) 31 138 (.slice D K.length cD) aN ?_
        have hle_ := own_le b9
        refine WD.call 32 (by kernel_rfl) rfl rfl rfl rfl rfl (by kernel_rfl) (kept_n bH D K.length aZ K.length cD K hV (own_rd b7 (Go.Tw.encI_len _) (by decide)) (own_rd b9 (Go.Tw.encI_len _) (by decide)) (own_count (Go.Tw.encI_len _) (by decide) b7) (Rd.fr hrK b6.fr) (by first | rfl | assumption | omega) (by omega) (by omega)) ?_
        rintro _ i5 ⟨rfl, a5⟩
        have bt := aN.trans a5 (by simp)
        refine ⟨_, rfl, bt, ?_⟩
        have eF := b6.call a5
        have iG := RingR.fr eD a5 (by simp)
        have iH := RingR.fr eE a5 (by simp)
        refine WDq (NPt hN) 33 140 (.bool true) bt ?_
        refine WDq (NPt hN) 34 6 (.bool true) bt ?_
        refine WD.done (by kernel_rfl) ?_
        refine QXn (dL _ _ ?_)
        refine WC.ret ?_
        refine (hret _ _ _ rfl ?_).1
        exact ⟨rfl, eF.fr⟩
      ·
       have cI := cF.callN ay ho (RingR.lt cV)
       refine ⟨_, rfl, ?_⟩
       have eG := RingR.fr cH ay (by simp)
       have eH := own_fr bL ay (by simp)
       have eI := own_fr cT ay (by simp)
       have eJ := own_fr cG ay (by simp)
       have eK := own_fr bK ay (by simp)
       refine WLq 5 [(8, .nilIface), (11, .pointer (some ⟨p90, 0, none⟩)), (62, .nilIface), (61, .pointer (some ⟨p90, 0, none⟩)), (57, .tuple #[.pointer (some ⟨p90, 0, none⟩), .nilIface])] (WLd rfl (QXn (cU _ _ ?_)))
       refine WCs (fun i6 eL => ?_)
       refine WCg ?_
       refine WL.newM cI (fun b => .slice (some ⟨b, 0, none⟩) 0 0) (.cells #[] 3) 63 (fun _ => by kernel_rfl) (fun cM hW iI aO bu => ?_)
       have eM := RingR.fr eG aO (by simp)
       have eN := own_fr eH aO (by simp)
       have eO := own_fr eI aO (by simp)
       have eP := own_fr eJ aO (by simp)
       have eQ := own_fr eK aO (by simp)
       have eR := RingR.fr cV aO (by simp)
       refine WLq 1 [(64, .pointer (some ⟨g3, 1, none⟩))] ?_
       refine WLo 31 (.pointer (some ⟨g3, 1, none⟩)) (.slice A M.length c) 65 (run_ld (bu.get 0 rfl) rfl) ?_
       have eS : World.ownsRow hW 0 3 1 (.slice (some ⟨cM, 0, none⟩) 0 0) 0 [] := own_of_blk (Nat.zero_le _) (bu.get 1 rfl) (Nat.le_refl _) (Nat.zero_le _) (by simp) rfl
       have aq := bu.toF 1 rfl
       obtain ⟨i7, i8, eT, eU, aP, ar, g4, g5⟩ := app_run Try.prog aq 4 (v := .slice (some ⟨cM, 0, none⟩) 0 0) rfl 31 31 3 1 8 0 M.length c A rfl eS (M.flatMap (Go.Tw.encI .i64)) (flat_len_n (Go.Tw.encI_len _) (by first | rfl | assumption | (simp; done) | (simp; omega))) (Rd.src_n (Rd.fr hr aq.fr) (Go.Tw.encI_len _) (by decide) (by first | rfl | assumption | (simp; done) | (simp; omega))) (flat_one (Go.Tw.encI_one _) _) (by simp only [maxLen]; omega) (by omega)
       have ca := own_app (enc := (Go.Tw.encI .i64)) (ys := []) (zs := M) eU
       obtain ⟨cN, cO, rfl, hX⟩ := own_form ca
       refine WL.sem (Builtin.append_ #[31, 31] 31 #[.slice (some ⟨cM, 0, none⟩) 0 0, .slice A M.length c]) 66 (.slice cN (0 + M.length) cO) (by kernel_rfl) eT ?_
       have eV := RingR.fr eM aP (aq.disj 0 4 rfl rfl (by decide))
       have eW := own_fr eN aP (aq.disj 1 4 rfl rfl (by decide))
       have eX := own_fr eO aP (blk_al (n1 := X.length) (c1 := be) (aq.disj 1 4 rfl rfl (by decide)))
       have eY := own_fr eP aP (aq.disj 2 4 rfl rfl (by decide))
       have eZ := own_fr eQ aP (blk_al (n1 := K.length) (c1 := aZ) (aq.disj 2 4 rfl rfl (by decide)))
       have e0 := RingR.fr eR aP (aq.disj 3 4 rfl rfl (by decide))
       refine WLq 1 [(67, .slice B X.length cB)] ?_
       obtain ⟨i9, hY, e1, e2, aQ, cb, g6, g7⟩ := app_run Try.prog ar 4 (v := .slice cN (0 + M.length) cO) rfl 31 31 3 1 8 (0 + M.length) X.length cB B rfl ca (X.flatMap (Go.Tw.encI .i64)) (flat_len_n (Go.Tw.encI_len _) (by first | rfl | assumption | (simp; done) | (simp; omega))) (Rd.src_n (Rd.fr hrX ar.fr) (Go.Tw.encI_len _) (by decide) (by first | rfl | assumption | (simp; done) | (simp; omega))) (flat_one (Go.Tw.encI_one _) _) (by simp only [maxLen]; omega) (by omega)
       have a6 := own_app (enc := (Go.Tw.encI .i64)) (ys := [] ++ M) (zs := X) e2
       obtain ⟨bg, bh, rfl, hZ⟩ := own_form a6
       refine WL.sem (Builtin.append_ #[31, 31] 31 #[.slice cN (0 + M.length) cO, .slice B X.length cB]) 68 (.slice bg (0 + M.length + X.length) bh) (by kernel_rfl) e1 ?_
       have e3 := RingR.fr eV aQ (ar.disj 0 4 rfl rfl (by decide))
       have e4 := own_fr eW aQ (ar.disj 1 4 rfl rfl (by decide))
       have e5 := own_fr eX aQ (blk_al (n1 := X.length) (c1 := be) (ar.disj 1 4 rfl rfl (by decide)))
       have e6 := own_fr eY aQ (ar.disj 2 4 rfl rfl (by decide))
       have e7 := own_fr eZ aQ (blk_al (n1 := K.length) (c1 := aZ) (ar.disj 2 4 rfl rfl (by decide)))
       have e8 := RingR.fr e0 aQ (ar.disj 3 4 rfl rfl (by decide))
       refine WLq 1 [(12, .slice bg (0 + M.length + X.length) bh)] (WLd rfl (QXn (eL _ _ ?_)))
       refine WCs (fun ja e9 => ?_)
       refine WCg (WLq 1 [(69, .pointer (some ⟨g3, 0, none⟩))] ?_)
       refine WLo 3 (.pointer (some ⟨g3, 0, none⟩)) (.int .i64 per) 70 (run_ld (cb.get 0 rfl) rfl) ?_
       refine WLq 1 [(71, .slice bg (0 + M.length + X.length) bh)] ?_
       refine WLc rfl rfl rfl rfl rfl (by kernel_rfl) (Good_n per bg (0 + M.length + X.length) bh ([] ++ M ++ X) hY (own_rd a6 (Go.Tw.encI_len _) (by decide)) (own_count (Go.Tw.encI_len _) (by decide) a6) (by first | omega | (simp; done) | (simp; omega))) ?_
       rintro _ h0 ⟨rfl, au⟩
       refine ⟨_, rfl, ?_⟩
       have fa := cb.call au
       have fb := RingR.fr e3 au (by simp)
       have fc := own_fr e4 au (by simp)
       have fd := own_fr e5 au (by simp)
       have fe := own_fr e6 au (by simp)
       have ff := own_fr e7 au (by simp)
       have fg := RingR.fr e8 au (by simp)
       have fh := own_fr a6 au (by simp)
       refine WLt (show (.int .i64 (goodR per ([] ++ M ++ X)) : Value) = .int .i64 (0) from congrArg (Value.int .i64) ((with_good per M X).trans bf)) ?_
       refine WLq 1 [(13, .int .i64 0)] (WLd rfl (QXn (e9 _ _ ?_)))
       refine WCs (fun jb fi => ?_)
       refine WCs (fun jc fj => ?_)
       refine WCg (WLq 1 [(73, .nilIface)] ?_)
       refine WLc rfl rfl rfl rfl rfl (by kernel_rfl) (Num_nil h0) ?_
       rintro _ h1 ⟨rfl, av⟩
       refine ⟨_, rfl, ?_⟩
       have fk := fa.call av
       have fl := RingR.fr fb av (by simp)
       have fm := own_fr fc av (by simp)
       have fn := own_fr fd av (by simp)
       have fo := own_fr fe av (by simp)
       have fp := own_fr ff av (by simp)
       have cc := RingR.fr fg av (by simp)
       have fq := own_fr fh av (by simp)
       refine WLq 10 [(84, .pointer (some ⟨p90, 0, none⟩)), (83, .bool false), (82, .bool false), (81, .pointer (some ⟨p90, 0, none⟩)), (80, .bool true), (79, .bool true), (78, .int .i64 0), (77, .bool false), (76, .bool false), (75, .int .i64 0)] ?_
       have hgl_ := good_len bf
       refine WLc rfl rfl rfl rfl rfl (by kernel_rfl) (Members_ct G91 p90 per AP92 cP93 (ringP per (sortI M ++ X)) AM94 cM95 (sortI (sortI M ++ X)) h1 cc (by rw [sortI_len]; omega)) ?_
       rintro _ h2 ⟨v_, rfl, aw, a7⟩
       have fs := fk.callN aw (own_ge a7) (own_lt a7)
       obtain ⟨h3, h4, rfl, h5⟩ := own_form a7
       have ft := own_base (b' := 0) a7 (fun _ _ => Nat.zero_le _)
       refine ⟨_, rfl, ?_⟩
       have fu := RingR.fr fl aw (by simp)
       have fv := own_fr fm aw (by simp)
       have fw := own_fr fn aw (by simp)
       have fx := own_fr fo aw (by simp)
       have fy := own_fr fp aw (by simp)
       have fz := RingR.fr cc aw (by simp)
       have cd := own_fr fq aw (by simp)
       refine WLq 1 [(86, .slice bg (0 + M.length + X.length) bh)] ?_
       refine WLc rfl rfl rfl rfl rfl (by kernel_rfl) (RSorted_n bg (0 + M.length + X.length) bh ([] ++ M ++ X) h2 (own_rd cd (Go.Tw.encI_len _) (by decide)) (own_count (Go.Tw.encI_len _) (by decide) cd) (by first | omega | (simp; done) | (simp; omega))) ?_
       rintro _ h6 ⟨v_, rfl, ax, a8⟩
       have fA := fs.callN ax (own_ge a8) (own_lt a8)
       obtain ⟨h7, h8, rfl, h9⟩ := own_form a8
       have bv := own_base (b' := 0) a8 (fun _ _ => Nat.zero_le _)
       refine ⟨_, rfl, ?_⟩
       have fB := RingR.fr fu ax (by simp)
       have fC := own_fr fv ax (by simp)
       have fD := own_fr fw ax (by simp)
       have fE := own_fr fx ax (by simp)
       have fF := own_fr fy ax (by simp)
       have fG := RingR.fr fz ax (by simp)
       have bw := own_fr ft ax (by simp)
       refine WLc rfl rfl rfl rfl rfl (by kernel_rfl) (Ints_n h3 h7 ((sortI (sortI M ++ X)).length) h4 (0 + M.length + X.length) h8 (sortI (sortI M ++ X)) (sortI ([] ++ M ++ X)) h6 (own_rd bw (Go.Tw.encI_len _) (by decide)) (own_count (Go.Tw.encI_len _) (by decide) bw) (own_rd bv (Go.Tw.encI_len _) (by decide)) (own_count (Go.Tw.encI_len _) (by decide) bv) (own_max bw) (own_max bv)) ?_
       rintro _ ia ⟨rfl, aC⟩
       refine ⟨_, rfl, ?_⟩
       have fH := fA.call aC
       have ce := RingR.fr fB aC (by simp)
       have fI := own_fr fC aC (by simp)
       have fJ := own_fr fD aC (by simp)
       have bx := own_fr fE aC (by simp)
       have fK := own_fr fF aC (by simp)
       have fL := RingR.fr fG aC (by simp)
       refine WLq 5 [(93, .bool (!(decide ((sortI (sortI M ++ X)) = (sortI ([] ++ M ++ X)))))), (92, .bool (!(decide ((sortI (sortI M ++ X)) = (sortI ([] ++ M ++ X)))))), (91, .bool (!(decide ((sortI (sortI M ++ X)) = (sortI ([] ++ M ++ X)))))), (90, .bool (!(decide ((sortI (sortI M ++ X)) = (sortI ([] ++ M ++ X)))))), (89, .bool (!(decide ((sortI (sortI M ++ X)) = (sortI ([] ++ M ++ X))))))] ?_
       refine WL.know 93 (.bool (!(decide ((sortI (sortI M ++ X)) = (sortI ([] ++ M ++ X)))))) (.bool false) rfl (congrArg Value.bool (by rw [show (decide ((sortI (sortI M ++ X)) = (sortI ([] ++ M ++ X)))) = true from by exact decide_eq_true (with_sort M X)]; rfl)) ?_
       refine WLq 7 [(100, .bool false), (99, .bool false), (98, undef), (97, undef), (96, .bool false), (95, .bool false), (94, .int .i64 0)] (WLd rfl (QXn (fj _ _ ?_)))
       refine WCf rfl (WC.skip (QXn (fi _ _ ?_)))
       refine WCs (fun jd fM => ?_)
       refine WCg (WLq 2 [(103, .slice bH K.length aZ), (102, .pointer (some ⟨p43, 0, none⟩))] ?_)
       have hql_ := good_len aT
       refine WLc rfl rfl rfl rfl rfl (by kernel_rfl) (Without_n G44 p43 per AP45 cP46 (ringP per M) AM47 cM48 (sortI M) bH K.length aZ K ia ce (by rw [sortI_len]; omega) (own_rd bx (Go.Tw.encI_len _) (by decide)) (own_count (Go.Tw.encI_len _) (by decide) bx) (by first | omega | (simp; done) | (simp; omega))) ?_
       rintro _ je ⟨a521, b522, rfl, aD, (⟨bz, rfl, rfl⟩ | ⟨bz, p513, G514, AP515, cP516, AM517, cM518, rfl, rfl, cf, fN⟩)⟩
       ·
        exact absurd (good_out (K := K) aT) bz
       ·
        have fO := fH.callN aD fN (RingR.lt cf)
        refine ⟨_, rfl, ?_⟩
        have fP := RingR.fr ce aD (by simp)
        have fQ := own_fr fI aD (by simp)
        have fR := own_fr fJ aD (by simp)
        have fS := own_fr bx aD (by simp)
        have fT := own_fr fK aD (by simp)
        have fU := RingR.fr fL aD (by simp)
        refine WLq 5 [(8, .nilIface), (14, .pointer (some ⟨p513, 0, none⟩)), (106, .nilIface), (105, .pointer (some ⟨p513, 0, none⟩)), (101, .tuple #[.pointer (some ⟨p513, 0, none⟩), .nilIface])] (WLd rfl (QXn (fM _ _ ?_)))
        refine WCs (fun jf fV => ?_)
        refine WC.drawC fO [] (by kernel_rfl) (fun ib aE bA ab => ?_)
        have fW := RingR.fr fP aE (by simp)
        have fX := own_fr fQ aE (by simp)
        have fY := own_fr fR aE (by simp)
        have fZ := own_fr fS aE (by simp)
        have f0 := own_fr fT aE (by simp)
        have f1 := RingR.fr fU aE (by simp)
        have cg := RingR.fr cf aE (by simp)
        refine WDq (NPt hN) 0 107 (.nilIface) ab ?_
        refine WDq (NPt hN) 1 108 (.bool true) ab ?_
        refine WDq (NPt hN) 2 109 (.bool true) ab ?_
        refine WDq (NPt hN) 3 110 (.pointer (some ⟨p513, 0, none⟩)) ab ?_
        refine WDq (NPt hN) 4 111 (.bool true) ab ?_
        refine WDq (NPt hN) 5 112 (.bool true) ab ?_
        refine WDq (NPt hN) 6 113 (.bool true) ab ?_
        refine WDq (NPt hN) 7 114 (.pointer (some ⟨p513, 0, none⟩)) ab ?_
        refine WDq (NPt hN) 9 116 (.pointer (some ⟨g3, 1, none⟩)) ab ?_
        refine WDq (NPt hN) 11 118 (.slice D K.length cD) ab ?_
        refine WDm (NPt hN) 10 31 (.pointer (some ⟨g3, 1, none⟩)) (.slice A M.length c) 117 (fun _ hS_ => run_ld (Fr.has hS_ (bA.get 0 rfl) (by simp)) rfl) ab ?_
        have hgl_ := good_len bz
        refine WD.call 8 (by kernel_rfl) rfl rfl rfl rfl rfl (by kernel_rfl) (Members_ct G514 p513 per AP515 cP516 (ringP per (outK K (sortI M))) AM517 cM518 (sortI (outK K (sortI M))) ib cg (by rw [sortI_len]; omega)) ?_
        rintro _ ic ⟨v_, rfl, ai, a9⟩
        have bB := bA.callN ai (own_ge a9) (own_lt a9)
        obtain ⟨ie, ig, rfl, ih⟩ := own_form a9
        have f2 := own_base (b' := 0) a9 (fun _ _ => Nat.zero_le _)
        have ch := ab.trans ai (by simp)
        refine ⟨_, rfl, ch, ?_⟩
        have f3 := RingR.fr fW ai (by simp)
        have f4 := own_fr fX ai (by simp)
        have f5 := own_fr fY ai (by simp)
        have f6 := own_fr fZ ai (by simp)
        have f7 := own_fr f0 ai (by simp)
        have f8 := RingR.fr f1 ai (by simp)
        have f9 := RingR.fr cg ai (by simp)
        have hol_ : (outK K M).length ≤ List.length M := List.length_filter_le _ _
        refine WD.call 12 (by kernel_rfl) rfl rfl rfl rfl rfl (by kernel_rfl) (RWithout_n A M.length c M D K.length cD K ic (Rd.fr hr bB.fr) (by first | rfl | assumption | omega) (by first | omega | (simp; done) | (simp; omega)) (Rd.fr hrK bB.fr) (by first | rfl | assumption | omega) (by first | omega | (simp; done) | (simp; omega))) ?_
        rintro _ ii ⟨v_, rfl, ac, ba⟩
        have ga := bB.callN ac (own_ge ba) (own_lt ba)
        obtain ⟨ij, ik, rfl, il⟩ := own_form ba
        have ci := own_base (b' := 0) ba (fun _ _ => Nat.zero_le _)
        have cj := ch.trans ac (by simp)
        refine ⟨_, rfl, cj, ?_⟩
        have gb := RingR.fr f3 ac (by simp)
        have gc := own_fr f4 ac (by simp)
        have gd := own_fr f5 ac (by simp)
        have gf := own_fr f6 ac (by simp)
        have gg := own_fr f7 ac (by simp)
        have gh := RingR.fr f8 ac (by simp)
        have gi := RingR.fr f9 ac (by simp)
        have gj := own_fr f2 ac (by simp)
        refine WD.call 13 (by kernel_rfl) rfl rfl rfl rfl rfl (by kernel_rfl) (RSorted_n ij ((outK K M).length) ik (outK K M) ii (own_rd ci (Go.Tw.encI_len _) (by decide)) (own_count (Go.Tw.encI_len _) (by decide) ci) (by first | omega | (simp; done) | (simp; omega))) ?_
        rintro _ im ⟨v_, rfl, ad, bb⟩
        have gk := ga.callN ad (own_ge bb) (own_lt bb)
        obtain ⟨io, ip, rfl, iq⟩ := own_form bb
        have bC := own_base (b' := 0) bb (fun _ _ => Nat.zero_le _)
        have ck := cj.trans ad (by simp)
        refine ⟨_, rfl, ck, ?_⟩
        have gl := RingR.fr gb ad (by simp)
        have gm := own_fr gc ad (by simp)
        have gn := own_fr gd ad (by simp)
        have go := own_fr gf ad (by simp)
        have gp := own_fr gg ad (by simp)
        have gq := RingR.fr gh ad (by simp)
        have gr := RingR.fr gi ad (by simp)
        have bD := own_fr gj ad (by simp)
        refine WD.call 14 (by kernel_rfl) rfl rfl rfl rfl rfl (by kernel_rfl) (Ints_n ie io ((sortI (outK K (sortI M))).length) ig ((outK K M).length) ip (sortI (outK K (sortI M))) (sortI (outK K M)) im (own_rd bD (Go.Tw.encI_len _) (by decide)) (own_count (Go.Tw.encI_len _) (by decide) bD) (own_rd bC (Go.Tw.encI_len _) (by decide)) (own_count (Go.Tw.encI_len _) (by decide) bC) (own_max bD) (own_max bC)) ?_
        rintro _ ir ⟨rfl, aj⟩
        have aF := ck.trans aj (by simp)
        refine ⟨_, rfl, aF, ?_⟩
        have gs := gk.call aj
        have cl := RingR.fr gl aj (by simp)
        have gu := own_fr gm aj (by simp)
        have gv := own_fr gn aj (by simp)
        have gw := own_fr go aj (by simp)
        have gx := own_fr gp aj (by simp)
        have gy := RingR.fr gq aj (by simp)
        have gz := RingR.fr gr aj (by simp)
        refine WDq (NPt hN) 15 122 (.bool (decide ((sortI (outK K (sortI M))) = (sortI (outK K M))))) aF ?_
        refine WDq (NPt hN) 16 123 (.bool (decide ((sortI (outK K (sortI M))) = (sortI (outK K M))))) aF ?_
        refine WD.know 123 (.bool (decide ((sortI (outK K (sortI M))) = (sortI (outK K M))))) (.bool true) rfl (congrArg Value.bool (by exact decide_eq_true (out_sort K M))) ?_
        refine WDq (NPt hN) 17 124 (.pointer (some ⟨p43, 0, none⟩)) aF ?_
        refine WDq (NPt hN) 19 126 (.pointer (some ⟨g3, 1, none⟩)) aF ?_
        refine WDm (NPt hN) 20 31 (.pointer (some ⟨g3, 1, none⟩)) (.slice A M.length c) 127 (fun _ hS_ => run_ld (Fr.has hS_ (bA.get 0 rfl) (by simp)) rfl) aF ?_
        have hgl_ := good_len aT
        refine WD.call 18 (by kernel_rfl) rfl rfl rfl rfl rfl (by kernel_rfl) (Members_ct G44 p43 per AP45 cP46 (ringP per M) AM47 cM48 (sortI M) ir cl (by rw [sortI_len]; omega)) ?_
        rintro _ it ⟨v_, rfl, ak, bc⟩
        have cm := gs.callN ak (own_ge bc) (own_lt bc)
        obtain ⟨iu, iv, rfl, iw⟩ := own_form bc
        have gA := own_base (b' := 0) bc (fun _ _ => Nat.zero_le _)
        have cn := aF.trans ak (by simp)
        refine ⟨_, rfl, cn, ?_⟩
        have gB := RingR.fr cl ak (by simp)
        have gC := own_fr gu ak (by simp)
        have gD := own_fr gv ak (by simp)
        have gE := own_fr gw ak (by simp)
        have gF := own_fr gx ak (by simp)
        have gG := RingR.fr gy ak (by simp)
        have gH := RingR.fr gz ak (by simp)
        refine WD.call 21 (by kernel_rfl) rfl rfl rfl rfl rfl (by kernel_rfl) (RSorted_n A M.length c M it (Rd.fr hr cm.fr) (by first | rfl | assumption | omega) (by first | omega | (simp; done) | (simp; omega))) ?_
        rintro _ ix ⟨v_, rfl, ae, bd⟩
        have gI := cm.callN ae (own_ge bd) (own_lt bd)
        obtain ⟨iy, iz, rfl, iA⟩ := own_form bd
        have bE := own_base (b' := 0) bd (fun _ _ => Nat.zero_le _)
        have co := cn.trans ae (by simp)
        refine ⟨_, rfl, co, ?_⟩
        have gJ := RingR.fr gB ae (by simp)
        have gK := own_fr gC ae (by simp)
        have gL := own_fr gD ae (by simp)
        have gM := own_fr gE ae (by simp)
        have gN := own_fr gF ae (by simp)
        have gO := RingR.fr gG ae (by simp)
        have gP := RingR.fr gH ae (by simp)
        have bF := own_fr gA ae (by simp)
        refine WD.call 22 (by kernel_rfl) rfl rfl rfl rfl rfl (by kernel_rfl) (Ints_n iu iy ((sortI M).length) iv M.length iz (sortI M) (sortI M) ix (own_rd bF (Go.Tw.encI_len _) (by decide)) (own_count (Go.Tw.encI_len _) (by decide) bF) (own_rd bE (Go.Tw.encI_len _) (by decide)) (own_count (Go.Tw.encI_len _) (by decide) bE) (own_max bF) (own_max bE)) ?_
        rintro _ iB ⟨rfl, al⟩
        have aR := co.trans al (by simp)
        refine ⟨_, rfl, aR, ?_⟩
        have cp := gI.call al
        have gQ := RingR.fr gJ al (by simp)
        have cq := own_fr gK al (by simp)
        have cr := own_fr gL al (by simp)
        have gR := own_fr gM al (by simp)
        have gS := own_fr gN al (by simp)
        have gT := RingR.fr gO al (by simp)
        have gU := RingR.fr gP al (by simp)
        refine WDq (NPt hN) 23 130 (.bool (decide ((sortI M) = (sortI M)))) aR ?_
        refine WDq (NPt hN) 24 131 (.bool (decide ((sortI M) = (sortI M)))) aR ?_
        refine WD.know 131 (.bool (decide ((sortI M) = (sortI M)))) (.bool true) rfl (congrArg Value.bool (by simp)) ?_
        refine WDq (NPt hN) 25 132 (.slice bO X.length be) aR ?_
        refine WDq (NPt hN) 26 133 (.slice B X.length cB) aR ?_
        have hle_ := own_le cr
        refine WD.call 27 (by kernel_rfl) rfl rfl rfl rfl rfl (by kernel_rfl) (kept_n bO B X.length be X.length cB X iB (own_rd cq (Go.Tw.encI_len _) (by decide)) (own_rd cr (Go.Tw.encI_len _) (by decide)) (own_count (Go.Tw.encI_len _) (by decide) cq) (Rd.fr hrX cp.fr) (by first | rfl | assumption | omega) (by omega) (by omega)) ?_
        rintro _ iC ⟨rfl, aG⟩
        have aS := aR.trans aG (by simp)
        refine ⟨_, rfl, aS, ?_⟩
        have cs := cp.call aG
        have gV := RingR.fr gQ aG (by simp)
        have ct := own_fr gR aG (by simp)
        have cu := own_fr gS aG (by simp)
        have gW := RingR.fr gT aG (by simp)
        have gX := RingR.fr gU aG (by simp)
        refine WDq (NPt hN) 28 135 (.bool true) aS ?_
        refine WDq (NPt hN) 29 136 (.bool true) aS ?_
        refine WDq (NPt hN) 30 137 (.slice bH K.length aZ) aS ?_
        refine WDq (NPt hN) 31 138 (.slice D K.length cD) aS ?_
        have hle_ := own_le cu
        refine WD.call 32 (by kernel_rfl) rfl rfl rfl rfl rfl (by kernel_rfl) (kept_n bH D K.length aZ K.length cD K iC (own_rd ct (Go.Tw.encI_len _) (by decide)) (own_rd cu (Go.Tw.encI_len _) (by decide)) (own_count (Go.Tw.encI_len _) (by decide) ct) (Rd.fr hrK cs.fr) (by first | rfl | assumption | omega) (by omega) (by omega)) ?_
        rintro _ jg ⟨rfl, aY⟩
        have bG := aS.trans aY (by simp)
        refine ⟨_, rfl, bG, ?_⟩
        have gY := cs.call aY
        have iJ := RingR.fr gV aY (by simp)
        have iK := RingR.fr gW aY (by simp)
        have iL := RingR.fr gX aY (by simp)
        refine WDq (NPt hN) 33 140 (.bool true) bG ?_
        refine WDq (NPt hN) 34 6 (.bool true) bG ?_
        refine WD.done (by kernel_rfl) ?_
        refine QXn (fV _ _ ?_)
        refine WC.ret ?_
        refine (hret _ _ _ rfl ?_).1
        exact ⟨rfl, gY.fr⟩

end Go.Proofs.Ytibkndhgeeoidaa
