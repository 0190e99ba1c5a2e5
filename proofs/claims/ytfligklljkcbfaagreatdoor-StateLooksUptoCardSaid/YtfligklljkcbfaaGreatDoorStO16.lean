/- Contracts of functions of the program, each proved by a walk through its code; conditions stand in the statements. -/
import Derived.Test.YtfligklljkcbfaaGreatDoorStN16
import Derived.Test.YtfligklljkcbfaaGreatDoorTwAl
namespace Go.Proofs.YtfligklljkcbfaaGreatDoor
set_option linter.unusedSimpArgs false
set_option linter.unusedVariables false
set_option linter.unusedSectionVars false
open Go Go.RowKit Go.Tw
set_option linter.unusedVariables false
set_option maxRecDepth 20000
theorem outV_u32 {ns : List SnatV} (h : ∀ x ∈ ns, isU32 x.dip ∧ isU32 x.vip) (dip : Int) : isU32 (outV ns dip) := by
  unfold outV
  cases hf : outF ns dip with
  | none => exact ⟨by decide, by decide⟩
  | some x => exact (h x (List.mem_of_find?_eq_some hf)).2
theorem in_leaL {V : CfgV} {l : Lease} (h : l ∈ leaL V) : l ∈ V.leases ∧ V.now ≤ l.exp := by
  obtain ⟨h1, h2⟩ := List.mem_filter.1 h
  exact ⟨h1, by simpa [pruneP, livesB] using h2⟩
theorem zero_notin {F F2 : List Nat} {w : World} (h0 : 0 ∉ F) (hs : 0 < w.heap.size) (h : ∀ x ∈ F2, x ∈ F ∨ w.heap.size ≤ x) : 0 ∉ F2 := fun hx => (h 0 hx).elim h0 (fun q => by omega)
theorem rd_size {α : Type} {w : World} {sz : Nat} {enc : α → List Value} {b off : Nat} {xs : List α} (h : Rd w sz enc (some ⟨b, off, none⟩) xs) (hp : ∀ x, 0 < (enc x).length) (hne : 0 < xs.length) : b < w.heap.size :=
  rd_lt h hp rfl (List.length_pos_iff.1 hne)
theorem dbTab_size {w : World} (hg : Rd w 1 (encI .u8) (some ⟨0, 0, none⟩) dbTab) : 0 < w.heap.size := rd_size hg (fun _ => Nat.lt_succ_self _) (by simp only [dbTab, List.length]; omega)
set_option maxHeartbeats 2000000 in
theorem lease_ct (F : List Nat) (p : Nat) (V : CfgV) (n : Nat) (dip : Int) (w : World) (h : cfgAt w F p V) (hw : wfCfg V n) (hn : n ≤ 100000000000) (hd : isU32 dip) (h0 : 0 ∉ F) (hg : Rd w 1 (encI .u8) (some ⟨0, 0, none⟩) dbTab) : Calls Tryz.prog 62 #[P0 p 0, U4 dip] w fun e w' => ∃ F2, e = .returned (.agg #[I6 ((leaseR V dip).err), U4 ((leaseR V dip).lease.vip), I6 ((leaseR V dip).lease.first), U4 ((leaseR V dip).lease.dip), I6 ((leaseR V dip).lease.exp)]) ∧ Fr w w' F ∧ cfgAt w' F2 p (leaseC V dip) ∧ ∀ x ∈ F2, x ∈ F ∨ w.heap.size ≤ x := by
 refine enterD (n := 131) Tryz.func62 rfl rfl (Nat.le_of_ble_eq_true rfl) ?_
 intro Q0 hN hret hret'
 have hvip_ := outV_u32 hw.nok dip
 have hlea_ := Nat.le_trans (List.length_filter_le (pruneP V.now) V.leases) hw.ln
 obtain ⟨AS, cS, xs, AN, cN, AK, cK, AL, cL, R, hC, hF_, hrS, hrN, hrK, hrL, hin, hvals⟩ := h
 have hssx_ : sortK kS xs := sortK_map (by rw [hvals]; exact hw.ssort)
 have hslx_ : V.svcs.length = xs.length := by rw [← hvals, List.length_map]
 have hws1_ := hw.sn
 have hws2_ := hw.nn
 have hws3_ := hw.kn
 have hws4_ := hw.ln
 have hws5_ := hw.ep0
 have hws6_ := hw.ep1
 have hws7_ := hw.now0
 have hws8_ := hw.now1
 refine WCs (fun K1 hK2 => WCg (WLb hC (.cells #[I6 0, U4 0, I6 0, U4 0, I6 0] 52) 4 (fun g3 w4 hb7 hF5 hC6 => WLd rfl (QXn (hK2 _ _ (WCs (fun K8 hK9 => WCg ?_)))))))
 refine WLz 3 [(17, P0 p 0)] (WLo 31 (P0 p 0) (.agg #[I6 V.epoch, I6 V.now, .slice AS xs.length cS, .slice AN V.snats.length cN, .slice AK V.sick.length cK, .slice AL V.leases.length cL]) 18 (run_ld (hC6.get 0 rfl) rfl) (WLq 1 [(19, U4 dip)] (WLk (Outside_n V.epoch V.now AS AK AL xs.length cS V.sick.length cK V.leases.length cL AN V.snats.length cN V.snats dip w4 (own_rd (own_fr hrN hF5 (by simp)) cellsN_len (by decide)) (own_count cellsN_len (by decide) (own_fr hrN hF5 (by simp))) (by first | omega | (simp; done))) ?_)))
 rintro _ ig ⟨rfl, eo⟩
 refine ⟨_, rfl, ?_⟩
 have ep := hC6.call eo
 have er := hF5.trans eo (by simp)
 refine WLz 5 [(6, .bool (outB V.snats dip)), (5, U4 (outV V.snats dip))] (WLd rfl (QXn (hK9 _ _ (WCs (fun jG aU => WCs (fun jH aV => WCg (WLz 2 [(24, .bool (!(outB V.snats dip)))] (WLd rfl (QXn (aV _ _ (WCa 24 (!(outB V.snats dip)) rfl (fun aC => ?_) (fun aC => ?_))))))))))))
 ·
  have ax : (outB V.snats dip) = false := by first | (simpa only [Bool.not_eq_true', Bool.not_eq_false'] using aC) | simpa using aC
  refine WCt rfl (WCs (fun jI es => WCg (WLq 1 [(25, .iface 118 (I6 6))] (WLk (result_err 6 ig) ?_))))
  rintro _ jJ ⟨rfl, et⟩
  refine ⟨_, rfl, ?_⟩
  have hj := ep.call et
  have hl := er.trans et (by simp)
  refine WLv (c' := #[I6 6, U4 0, I6 0, U4 0, I6 0]) hj 1 52 g3 0 (.agg #[I6 6, U4 0, I6 0, U4 0, I6 0]) (fun jK hm eu => ?_)
  have b7 := hl.trans hm (fun x_ h_ => .inr (by rw [List.mem_singleton] at h_; subst h_; exact hb7))
  refine WLd rfl (QXn (es _ _ (WC.ret (QXr ?_))))
  refine (hret' _ _ (.agg #[I6 6, U4 0, I6 0, U4 0, I6 0]) (fun a ha => ?_) ?_).1
  ·
   exact res_run ha ((ResR.cell rfl (run_ld (eu.get 1 rfl) rfl) ResR.nil)) rfl
  clear hN hret hret' es aV aU hK9 hK2
  have ho := Cx.pickM eu [0] [0, 1, 2, 3, 4] (by decide) rfl rfl
  obtain ⟨hp, ev, d1⟩ := cfg_close (V := V) (xs := xs) ho (own_fr hrS b7 (by simp)) (own_fr hrN b7 (by simp)) (own_fr hrK b7 (by simp)) (own_fr hrL b7 (by simp)) (svcsIn.fr hin b7 (by simp)) hvals
  have hR_ : leaseR V dip = errR 6 := by unfold leaseR; rw [if_pos ax]
  have hV_ : leaseC V dip = V := by unfold leaseC; rw [if_pos ax]
  rw [hR_, hV_]
  exact ⟨_, rfl, ev, hp, d1⟩
 ·
  have ax : (outB V.snats dip) = true := by first | (simpa only [Bool.not_eq_true', Bool.not_eq_false'] using aC) | simpa using aC
  refine WCf rfl (WC.skip (QXn (aU _ _ (WCs (fun jL aW => WC.drawC ep [p] (by kernel_rfl) (fun h7 hq bS al => ?_))))))
  have cD := er.trans hq (by simp)
  refine WDx 9 [(0, 27, P0 p 0), (1, 28, P0 p 0), (2, 29, P0 p 0), (3, 30, P0 p 0), (4, 31, P0 p 5), (6, 33, P0 p 0), (7, 34, P0 p 0), (8, 35, P0 p 0), (9, 36, P0 p 1)] al (WD.all2 5 10 (by kernel_rfl) ?_ ?_)
  ·
   refine WO.sem 5 (Instr.loadAt 29 (P0 p 5)) 32 (.slice AL V.leases.length cL) (by kernel_rfl) (by kernel_rfl) (run_ld (bS.get 0 rfl) rfl) al (WD.sem 10 (Instr.loadAt 3 (P0 p 1)) 37 (I6 V.now) (by kernel_rfl) (by kernel_rfl) (run_ld (bS.get 0 rfl) rfl) al (WDc 11 (Prune_ct AL cL V.leases V.now h7 (own_rd (own_fr hrL cD (by simp)) encL_len (by decide)) hw.lok (by first | omega | simp)) ?_))
   rintro _ jM ⟨v_, rfl, d2, cE⟩
   have bE := bS.callN d2 (own_ge cE) (own_lt cE)
   obtain ⟨b5, b6, rfl, h8⟩ := own_form cE
   have hr := own_base (b' := 0) cE (fun _ _ => Nat.zero_le _)
   have bT := al.trans d2 (by simp)
   refine ⟨_, rfl, bT, ?_⟩
   have hs := cD.trans d2 (by simp)
   refine WDx 3 [(12, 39, P0 p 0), (13, 40, P0 p 0), (14, 41, P0 p 5)] bT ?_
   obtain ⟨jN, ht, d3, hv⟩ := sto_run (c' := #[I6 V.epoch, I6 V.now, .slice AS xs.length cS, .slice AN V.snats.length cN, .slice AK V.sick.length cK, .slice b5 ((V.leases.filter (pruneP V.now)).length) b6]) Tryz.prog bE 0 29 p 5 (.slice b5 ((V.leases.filter (pruneP V.now)).length) b6) rfl (by kernel_rfl)
   have hx := bT.trans d3 (by first | (simp; done) | (simp [*]; done) | (have q_ := bT.size; simp; omega))
   refine WDu 15 ht hx ?_
   have hy := (hs.mono (G := [p]) (by simp)).trans d3 (fun _ h_ => .inl h_)
   have hz := own_fr hr d3 (bE.apartM 5 0 rfl rfl)
   refine WDd (QXn (aW _ _ (WCs (fun jO b8 => WCg (WLq 1 [(7, .slice none 0 0)] (WLd rfl (QXn (b8 _ _ (WCs (fun jP b9 => WCs (fun jQ ca => ?_)))))))))))
   refine WC.drawC hv [] (by kernel_rfl) (fun ih ew d4 ao => ?_)
   have hA := hy.trans ew (by simp)
   have ex := own_fr hz ew (by simp)
   refine WDx 10 [(0, 42, P0 p 0), (1, 43, P0 p 0), (2, 44, P0 p 0), (3, 45, P0 p 5), (5, 47, U4 dip), (6, 48, P0 p 0), (7, 49, P0 p 0), (8, 50, P0 p 0), (9, 51, P0 p 1), (13, 55, I6 0)] ao (WDm 4 29 (P0 p 5) (.slice b5 ((V.leases.filter (pruneP V.now)).length) b6) 46 (fun _ hS_ => run_ld (Fr.has hS_ (d4.get 0 rfl) (by simp)) rfl) ao (WDm 10 3 (P0 p 1) (I6 V.now) 52 (fun _ hS_ => run_ld (Fr.has hS_ (d4.get 0 rfl) (by simp)) rfl) ao (WDc 11 (Of_ct b5 b6 (V.leases.filter (pruneP V.now)) dip V.now ih (own_rd ex encL_len (by decide)) (fun l_ h_ => hw.lok l_ (List.mem_filter.1 h_).1) (by first | omega | simp)) ?_)))
   rintro _ jR ⟨v_, rfl, cF, cG⟩
   have hB := d4.callN cF (own_ge cG) (own_lt cG)
   obtain ⟨g9, hb, rfl, h9⟩ := own_form cG
   have ey := own_base (b' := 0) cG (fun _ _ => Nat.zero_le _)
   have ez := ao.trans cF (by simp)
   refine ⟨_, rfl, ez, ?_⟩
   have cb := hA.trans cF (by simp)
   have hD := own_fr ex cF (by simp)
   refine WDq 12 54 (I6 (((V.leases.filter (pruneP V.now)).filter (ofP dip V.now)).length : Int)) ez (WDd (QXn (ca _ _ (WC.block ?_))))
   have hE := hB.addNil
   have hol_ := own_count encL_len (by decide) ey
   have holb_ : ((V.leases.filter (pruneP V.now)).filter (ofP dip V.now)).length ≤ n := Nat.le_trans (List.length_filter_le _ _) (Nat.le_trans (List.length_filter_le _ _) hw.ln)
   refine WC.loop (fun m_ E_ w_ => ∃ (k : Nat) (A5 : Option Addr) (n5 c5 : Nat), m_ = ((V.leases.filter (pruneP V.now)).filter (ofP dip V.now)).length - k ∧ E_ = [(0, P0 p 0), (1, U4 dip), (4, P0 g3 0), (5, U4 (outV V.snats dip)), (6, .bool (outB V.snats dip)), (7, .slice A5 n5 c5), (53, .slice g9 (((V.leases.filter (pruneP V.now)).filter (ofP dip V.now)).length) hb), (54, I6 (((V.leases.filter (pruneP V.now)).filter (ofP dip V.now)).length : Int)), (55, I6 (k : Int))] ∧ Cx w F w_ [(p, .cells #[I6 V.epoch, I6 V.now, .slice AS xs.length cS, .slice AN V.snats.length cN, .slice AK V.sick.length cK, .slice b5 ((V.leases.filter (pruneP V.now)).length) b6] 72 (0, 0)), (g3, .cells #[I6 0, U4 0, I6 0, U4 0, I6 0] 52)] [blk (.slice AS xs.length cS), blk (.slice AN V.snats.length cN), blk (.slice AK V.sick.length cK), blk (.slice AL V.leases.length cL), R, blk (.slice b5 ((V.leases.filter (pruneP V.now)).length) b6), blk (.slice g9 (((V.leases.filter (pruneP V.now)).filter (ofP dip V.now)).length) hb), blk (.slice A5 n5 c5)] ∧ World.ownsRow w_ 0 43 4 (.slice AS xs.length cS) xs.length (xs.flatMap cellsS) ∧ World.ownsRow w_ 0 79 2 (.slice AN V.snats.length cN) V.snats.length (V.snats.flatMap cellsN) ∧ World.ownsRow w_ 0 40 1 (.slice AK V.sick.length cK) V.sick.length (V.sick.flatMap (Go.Tw.encI .u32)) ∧ World.ownsRow w_ 0 50 4 (.slice AL V.leases.length cL) V.leases.length (V.leases.flatMap encL) ∧ svcsIn w_ R xs ∧ World.ownsRow w_ 0 50 4 (.slice b5 ((V.leases.filter (pruneP V.now)).length) b6) ((V.leases.filter (pruneP V.now)).length) ((V.leases.filter (pruneP V.now)).flatMap encL) ∧ World.ownsRow w_ 0 50 4 (.slice g9 (((V.leases.filter (pruneP V.now)).filter (ofP dip V.now)).length) hb) (((V.leases.filter (pruneP V.now)).filter (ofP dip V.now)).length) (((V.leases.filter (pruneP V.now)).filter (ofP dip V.now)).flatMap encL) ∧ World.ownsRow w_ 0 50 4 (.slice A5 n5 c5) n5 (((((V.leases.filter (pruneP V.now)).filter (ofP dip V.now)).take k).filter (oldP (outV V.snats dip) V.now)).flatMap encL) ∧ (k ≤ ((V.leases.filter (pruneP V.now)).filter (ofP dip V.now)).length)) ⟨_, _, ⟨0, none, 0, 0, rfl, rfl, hE, (own_fr hrS cb (bE.apartM 0 0 rfl rfl)), (own_fr hrN cb (bE.apartM 1 0 rfl rfl)), (own_fr hrK cb (bE.apartM 2 0 rfl rfl)), (own_fr hrL cb (bE.apartM 3 0 rfl rfl)), (svcsIn.fr hin cb (bE.apartM 4 0 rfl rfl)), hD, ey, own_nil _ _ _ _, Nat.zero_le _⟩, sub_of ⟨rfl, rfl, rfl, rfl, rfl, rfl, rfl, rfl, rfl, trivial⟩⟩ (fun m89 E_ jS jT d5 hF => ?_)
   obtain ⟨k, A5, n5, c5, rfl, rfl, eA, S_m89, N_m89, K_m89, L_m89, in_m89, row52_m89, row84_m89, hold, hk⟩ := hF
   have hon_ := own_count encL_len (by decide) hold
   have honb_ : ((((V.leases.filter (pruneP V.now)).filter (ofP dip V.now)).take k).filter (oldP (outV V.snats dip) V.now)).length ≤ n := Nat.le_trans (List.length_filter_le _ _) (Nat.le_trans (by rw [List.length_take]; exact Nat.min_le_right _ _) holb_)
   refine WCs (fun jU cc => WCg (WLq 1 [(56, .bool (decide ((k : Int) < (((V.leases.filter (pruneP V.now)).filter (ofP dip V.now)).length : Int))))] (WLd rfl (QXn (cc _ _ (WCs (fun jV cd => WCa 56 (decide ((k : Int) < (((V.leases.filter (pruneP V.now)).filter (ofP dip V.now)).length : Int))) rfl (fun bU => ?_) (fun bU => ?_))))))))
   ·
    have hc : (k : Int) < (((V.leases.filter (pruneP V.now)).filter (ofP dip V.now)).length : Int) := by have q_ := of_decide_eq_true bU; omega
    refine WCt rfl (WC.skip (QXn (cd _ _ (WCs (fun jW d6 => WC.block (WCs (fun jX eB => ?_)))))))
    refine WCg ?_
    have ia := own_count encL_len (by decide) row84_m89
    obtain ⟨aa, aX⟩ := get_some (xs := ((V.leases.filter (pruneP V.now)).filter (ofP dip V.now))) (i := k) (by omega)
    obtain ⟨b103, cY⟩ := own_addr (by decide) encL_len row84_m89 aX
    refine WLi g9 (((V.leases.filter (pruneP V.now)).filter (ofP dip V.now)).length) hb 57 .i64 (k : Int) b103 0 k 4 (by kernel_rfl) cY (by omega) (by omega) (k * 4) (by first | (simp; done) | omega) (WLo 50 (P0 b103 (k * 4)) (.agg #[U4 aa.vip, I6 aa.first, U4 aa.dip, I6 aa.exp]) 58 (run_rdN (l := [U4 aa.vip, I6 aa.first, U4 aa.dip, I6 aa.exp]) rfl rfl (fun j u hu => by have hq_ := Rd.cell (own_rd row84_m89 encL_len (by decide)) cY aX j u hu; simpa [Nat.add_assoc] using hq_)) ?_)
    obtain ⟨hm1_, hm2_⟩ := List.mem_filter.1 (List.mem_of_getElem? aX)
    obtain ⟨hm3_, hm4_⟩ := in_leaL hm1_
    obtain ⟨hq1_, hq2_, hq3_, hq4_, hq5_, hq6_, hq7_, hq8_⟩ := hw.lok _ hm3_
    refine WLb eA (.cells #[U4 0, I6 0, U4 0, I6 0] 50) 9 (fun bV ii eC eD eE => WLv (c' := #[U4 aa.vip, I6 aa.first, U4 aa.dip, I6 aa.exp]) eE 2 50 bV 0 (.agg #[U4 aa.vip, I6 aa.first, U4 aa.dip, I6 aa.exp]) (fun ij eF eG => ?_))
    have eH := eD.trans eF (fun x_ h_ => .inr (by rw [List.mem_singleton] at h_; subst h_; exact eC))
    refine WLd rfl (QXn (eB _ _ (WCs (fun ik cZ => WC.drawC eG [] (by kernel_rfl) (fun il eI aD ac => ?_)))))
    have ae := eH.trans eI (by simp)
    refine WDx 2 [(0, 59, P0 bV 0), (2, 61, U4 (outV V.snats dip))] ac (WDm 1 40 (P0 bV 0) (U4 aa.vip) 60 (fun _ hS_ => run_ld (Fr.has hS_ (aD.get 2 rfl) (by simp)) rfl) ac (WDx 2 [(3, 62, .bool (aa.vip == (outV V.snats dip))), (4, 63, .bool (aa.vip == (outV V.snats dip)))] ac (WDa 63 (aa.vip == (outV V.snats dip)) rfl (fun aY => ?_) (fun aY => ?_))))
    ·
     have cH : aa.vip = (outV V.snats dip) := by simpa using aY
     refine WDx 5 [(5, 64, P0 bV 3), (7, 66, P0 p 0), (8, 67, P0 p 0), (9, 68, P0 p 0), (10, 69, P0 p 1)] ac (WDm 6 3 (P0 bV 3) (I6 aa.exp) 65 (fun _ hS_ => run_ld (Fr.has hS_ (aD.get 2 rfl) (by simp)) rfl) ac (WDm 11 3 (P0 p 1) (I6 V.now) 70 (fun _ hS_ => run_ld (Fr.has hS_ (aD.get 0 rfl) (by simp)) rfl) ac (WDq 12 71 (I6 (IntKind.i64.wrap (aa.exp - V.now))) ac (WD.recast (show (I6 (IntKind.i64.wrap (aa.exp - V.now)) : Value) = I6 (aa.exp - V.now) from by rw [wrap_in_i64 (aa.exp - V.now) (by omega) (by omega)]) (WDx 2 [(13, 72, .bool (decide ((aa.exp - V.now) < 32))), (14, 73, .bool (decide ((aa.exp - V.now) < 32)))] ac ?_)))))
     refine WDd (QXn (cZ _ _ (WCa 73 (decide ((aa.exp - V.now) < 32)) rfl (fun bb => ?_) (fun bb => ?_))))
     ·
      have d7 : (aa.exp - V.now) < 32 := by have q_ := of_decide_eq_true bb; omega
      refine WCt rfl (WCg (WLq 1 [(74, .slice A5 n5 c5)] (WLo 50 (P0 bV 0) (.agg #[U4 aa.vip, I6 aa.first, U4 aa.dip, I6 aa.exp]) 75 (run_ld (aD.get 2 rfl) rfl) (WL.newM aD (fun b => .slice (some ⟨b, 0, none⟩) 1 1) (.cells #[U4 aa.vip, I6 aa.first, U4 aa.dip, I6 aa.exp] 50) 76 (fun _ => by kernel_rfl) (fun eJ im ib eK am => ?_)))))
      have ap := ae.trans eK (by simp)
      obtain ⟨io, ip, eL, eM, aE, eN, he, hf⟩ := app_run Tryz.prog am 7 (v := .slice A5 n5 c5) rfl 29 29 50 4 32 n5 1 1 (some ⟨eJ, 0, none⟩) rfl (own_fr hold ap (by simp)) [U4 aa.vip, I6 aa.first, U4 aa.dip, I6 aa.exp] rfl (srcOk.blk 1 (am.get 3 rfl)) rfl (by simp only [maxLen]; omega) (by omega)
      have c0 := own_snoc (enc := encL) (ys := ((((V.leases.filter (pruneP V.now)).filter (ofP dip V.now)).take k).filter (oldP (outV V.snats dip) V.now))) aa eM
      obtain ⟨d8, d9, rfl, hG⟩ := own_form c0
      refine WLS 77 eL ?_
      have eO := own_fr (own_fr S_m89 ap (by simp)) aE (am.disj 0 7 rfl rfl (by decide))
      have eP := own_fr (own_fr N_m89 ap (by simp)) aE (am.disj 1 7 rfl rfl (by decide))
      have eQ := own_fr (own_fr K_m89 ap (by simp)) aE (am.disj 2 7 rfl rfl (by decide))
      have eR := own_fr (own_fr L_m89 ap (by simp)) aE (am.disj 3 7 rfl rfl (by decide))
      have eS := svcsIn.fr (svcsIn.fr in_m89 ap (by simp)) aE (am.disj 4 7 rfl rfl (by decide))
      have eT := own_fr (own_fr row52_m89 ap (by simp)) aE (am.disj 5 7 rfl rfl (by decide))
      have eU := own_fr (own_fr row84_m89 ap (by simp)) aE (am.disj 6 7 rfl rfl (by decide))
      refine WLq 1 [(7, .slice d8 (n5 + 1) d9)] (WLd rfl (QXb (QXn (d6 _ _ (WCg (WLq 1 [(78, I6 (IntKind.i64.wrap ((k : Int) + 1)))] (WLt (show (I6 (IntKind.i64.wrap ((k : Int) + 1)) : Value) = I6 ((k : Int) + 1) from by rw [wrap_in_i64 ((k : Int) + 1) (by omega) (by omega)]) ?_)))))))
      refine WLq 1 [(55, I6 ((k : Int) + 1))] (WLd rfl (QXn ?_))
      have eV := eN.pick [0, 1] [0, 1, 2, 3, 4, 5, 6, 7] rfl rfl
      refine fun a_ ha_ => d5 _ _ _ ?_ ⟨k + 1, d8, n5 + 1, d9, rfl, rfl, eV, eO, eP, eQ, eR, eS, eT, eU, by rw [filt_snoc (oldP (outV V.snats dip) V.now) aX, if_pos (by simp [oldP, cH, aY, d7, bb, ax, aC, hc, bU])]; exact c0, by omega⟩ a_ (ha_.weaken (sub_of ⟨rfl, rfl, rfl, rfl, rfl, rfl, rfl, rfl, rfl, trivial⟩))
      omega
     ·
      have d7 : (32 : Int) ≤ (aa.exp - V.now) := by have q_ := of_decide_eq_false bb; omega
      refine WCf rfl (WC.skip (QXb (QXn (d6 _ _ (WCg (WLq 1 [(78, I6 (IntKind.i64.wrap ((k : Int) + 1)))] (WLt (show (I6 (IntKind.i64.wrap ((k : Int) + 1)) : Value) = I6 ((k : Int) + 1) from by rw [wrap_in_i64 ((k : Int) + 1) (by omega) (by omega)]) (WLq 1 [(55, I6 ((k : Int) + 1))] ?_))))))))
      refine WLd rfl (QXn ?_)
      have eW := aD.pick [0, 1] [0, 1, 2, 3, 4, 5, 6, 7] rfl rfl
      refine fun a_ ha_ => d5 _ _ _ ?_ ⟨k + 1, A5, n5, c5, rfl, rfl, eW, (own_fr S_m89 ae (by simp)), (own_fr N_m89 ae (by simp)), (own_fr K_m89 ae (by simp)), (own_fr L_m89 ae (by simp)), (svcsIn.fr in_m89 ae (by simp)), (own_fr row52_m89 ae (by simp)), (own_fr row84_m89 ae (by simp)), by rw [filt_snoc (oldP (outV V.snats dip) V.now) aX, if_neg (by simp [oldP, cH, aY, d7, bb, ax, aC, hc, bU] <;> omega), List.append_nil]; exact (own_fr hold ae (by simp)), by omega⟩ a_ (ha_.weaken (sub_of ⟨rfl, rfl, rfl, rfl, rfl, rfl, rfl, rfl, rfl, trivial⟩))
      omega
    ·
     have cH : ¬ (aa.vip = (outV V.snats dip)) := by simpa using aY
     refine WDx 10 [(5, 64, undef), (6, 65, undef), (7, 66, undef), (8, 67, undef), (9, 68, undef), (10, 69, undef), (11, 70, undef), (12, 71, undef), (13, 72, undef), (14, 73, .bool false)] ac (WDd (QXn (cZ _ _ (WCf rfl (WC.skip (QXb (QXn (d6 _ _ ?_))))))))
     refine WCg (WLq 1 [(78, I6 (IntKind.i64.wrap ((k : Int) + 1)))] (WLt (show (I6 (IntKind.i64.wrap ((k : Int) + 1)) : Value) = I6 ((k : Int) + 1) from by rw [wrap_in_i64 ((k : Int) + 1) (by omega) (by omega)]) (WLq 1 [(55, I6 ((k : Int) + 1))] (WLd rfl (QXn ?_)))))
     have eX := aD.pick [0, 1] [0, 1, 2, 3, 4, 5, 6, 7] rfl rfl
     refine fun a_ ha_ => d5 _ _ _ ?_ ⟨k + 1, A5, n5, c5, rfl, rfl, eX, (own_fr S_m89 ae (by simp)), (own_fr N_m89 ae (by simp)), (own_fr K_m89 ae (by simp)), (own_fr L_m89 ae (by simp)), (svcsIn.fr in_m89 ae (by simp)), (own_fr row52_m89 ae (by simp)), (own_fr row84_m89 ae (by simp)), by rw [filt_snoc (oldP (outV V.snats dip) V.now) aX, if_neg (by simp [oldP, cH, aY, ax, aC, hc, bU] <;> omega), List.append_nil]; exact (own_fr hold ae (by simp)), by omega⟩ a_ (ha_.weaken (sub_of ⟨rfl, rfl, rfl, rfl, rfl, rfl, rfl, rfl, rfl, trivial⟩))
     omega
   ·
    have hc : (((V.leases.filter (pruneP V.now)).filter (ofP dip V.now)).length : Int) ≤ (k : Int) := by have q_ := of_decide_eq_false bU; omega
    refine WCf rfl ?_
    have hke_ : k = ((V.leases.filter (pruneP V.now)).filter (ofP dip V.now)).length := by omega
    have aA := hold
    rw [List.take_of_length_le (by omega)] at aA hon_ honb_
    have hfo_ : ((V.leases.filter (pruneP V.now)).filter (ofP dip V.now)).filter (oldP (outV V.snats dip) V.now) = (oldL V (outV V.snats dip) dip) := rfl
    rw [hfo_] at aA hon_ honb_
    skip
    refine WC.exit (QXe (QXe (QX.block_hit (QXn (b9 _ _ (WCs (fun iq bc => ?_)))))))
    refine WCg (WLq 1 [(10, .slice none 0 0)] (WLd rfl (QXn (bc _ _ (WCs (fun ir bd => WCg (WLb eA (.cells #[U4 0, I6 0, U4 0, I6 0] 50) 11 (fun be hH c1 bF c2 => WLd rfl (QXn (bd _ _ (WCs (fun it bf => ?_))))))))))))
    refine WCg (WLq 1 [(12, .nilIface)] (WLd rfl (QXn (bf _ _ (WCs (fun iu aZ => WCs (fun iv bg => WCg (WLz 3 [(81, .bool (decide ((n5 : Int) > 0)))] (WLd rfl (QXn (bg _ _ (WCa 81 (decide ((n5 : Int) > 0)) rfl (fun ce => ?_) (fun ce => ?_)))))))))))))
    ·
     have hI : (0 : Int) < (n5 : Int) := by have q_ := of_decide_eq_true ce; omega
     refine WCt rfl (WCs (fun iw cf => WCg (WLq 1 [(82, .slice A5 n5 c5)] ?_)))
     have hmn_ := own_count encL_len (by decide) (own_fr aA bF (by simp))
     refine WLk (Min_n A5 n5 c5 (oldL V (outV V.snats dip) dip) hH (own_rd (own_fr aA bF (by simp)) encL_len (by decide)) hmn_ (by omega) (by omega)) ?_
     rintro _ ix ⟨rfl, c3⟩
     refine ⟨_, rfl, ?_⟩
     have eY := c2.call c3
     have c4 := bF.trans c3 (by simp)
     refine WLb eY (.cells #[U4 0, I6 0, U4 0, I6 0] 50) 13 (fun ea iy eZ e0 e1 => ?_)
     have e2 := c4.trans e0 (by simp)
     refine WLv (c' := #[U4 ((minL (oldL V (outV V.snats dip) dip)).vip), I6 ((minL (oldL V (outV V.snats dip) dip)).first), U4 ((minL (oldL V (outV V.snats dip) dip)).dip), I6 ((minL (oldL V (outV V.snats dip) dip)).exp)]) e1 3 50 ea 0 (.agg #[U4 ((minL (oldL V (outV V.snats dip) dip)).vip), I6 ((minL (oldL V (outV V.snats dip) dip)).first), U4 ((minL (oldL V (outV V.snats dip) dip)).dip), I6 ((minL (oldL V (outV V.snats dip) dip)).exp)]) (fun iz e3 e4 => ?_)
     have e5 := e2.trans e3 (fun x_ h_ => .inr (by rw [List.mem_singleton] at h_; subst h_; exact (Nat.le_trans c4.size eZ)))
     refine WLd rfl (QXn (cf _ _ (WC.drawC e4 [be] (by kernel_rfl) (fun hJ e6 a0 ag => ?_))))
     have c6 := e5.trans e6 (by simp)
     refine WDx 11 [(0, 85, P0 p 0), (1, 86, P0 p 0), (2, 87, P0 p 0), (3, 88, P0 p 5), (5, 90, U4 (outV V.snats dip)), (6, 91, P0 ea 1), (8, 93, U4 dip), (9, 94, P0 p 0), (10, 95, P0 p 0), (11, 96, P0 p 0), (12, 97, P0 p 1)] ag (WDm 4 29 (P0 p 5) (.slice b5 ((V.leases.filter (pruneP V.now)).length) b6) 89 (fun _ hS_ => run_ld (Fr.has hS_ (a0.get 0 rfl) (by simpa using a0.ne 0 2 rfl rfl (by decide))) rfl) ag (WDm 7 3 (P0 ea 1) (I6 ((minL (oldL V (outV V.snats dip) dip)).first)) 92 (fun _ hS_ => run_ld (Fr.has hS_ (a0.get 3 rfl) (by simpa using a0.ne 3 2 rfl rfl (by decide))) rfl) ag (WD.sem 13 (Instr.loadAt 3 (P0 p 1)) 98 (I6 V.now) (by kernel_rfl) (by kernel_rfl) (run_ld (a0.get 0 rfl) rfl) ag (WDc 14 (Renew_ct b5 b6 (V.leases.filter (pruneP V.now)) (outV V.snats dip) ((minL (oldL V (outV V.snats dip) dip)).first) dip V.now hJ (own_rd (own_fr row52_m89 c6 (by simp)) encL_len (by decide)) (fun l_ h_ => hw.lok l_ (List.mem_filter.1 h_).1) (by omega)) ?_))))
     rintro _ iA ⟨v_, rfl, cg, bG⟩
     have c7 := a0.callN cg (own_ge bG) (own_lt bG)
     obtain ⟨bW, bX, rfl, hK⟩ := own_form bG
     have e7 := own_base (b' := 0) bG (fun _ _ => Nat.zero_le _)
     have aq := ag.trans cg (by simp)
     refine ⟨_, rfl, aq, ?_⟩
     have e8 := c6.trans cg (by simp)
     refine WDx 5 [(15, 84, .tuple #[.slice bW ((rnX (V.leases.filter (pruneP V.now)) (outV V.snats dip) ((minL (oldL V (outV V.snats dip) dip)).first) dip V.now).length) bX, .agg #[U4 ((rnL (V.leases.filter (pruneP V.now)) (outV V.snats dip) ((minL (oldL V (outV V.snats dip) dip)).first) dip V.now).vip), I6 ((rnL (V.leases.filter (pruneP V.now)) (outV V.snats dip) ((minL (oldL V (outV V.snats dip) dip)).first) dip V.now).first), U4 ((rnL (V.leases.filter (pruneP V.now)) (outV V.snats dip) ((minL (oldL V (outV V.snats dip) dip)).first) dip V.now).dip), I6 ((rnL (V.leases.filter (pruneP V.now)) (outV V.snats dip) ((minL (oldL V (outV V.snats dip) dip)).first) dip V.now).exp)], errV 118 (rnE (V.leases.filter (pruneP V.now)) (outV V.snats dip) ((minL (oldL V (outV V.snats dip) dip)).first) dip V.now)]), (16, 100, .slice bW ((rnX (V.leases.filter (pruneP V.now)) (outV V.snats dip) ((minL (oldL V (outV V.snats dip) dip)).first) dip V.now).length) bX), (17, 101, .agg #[U4 ((rnL (V.leases.filter (pruneP V.now)) (outV V.snats dip) ((minL (oldL V (outV V.snats dip) dip)).first) dip V.now).vip), I6 ((rnL (V.leases.filter (pruneP V.now)) (outV V.snats dip) ((minL (oldL V (outV V.snats dip) dip)).first) dip V.now).first), U4 ((rnL (V.leases.filter (pruneP V.now)) (outV V.snats dip) ((minL (oldL V (outV V.snats dip) dip)).first) dip V.now).dip), I6 ((rnL (V.leases.filter (pruneP V.now)) (outV V.snats dip) ((minL (oldL V (outV V.snats dip) dip)).first) dip V.now).exp)]), (18, 102, errV 118 (rnE (V.leases.filter (pruneP V.now)) (outV V.snats dip) ((minL (oldL V (outV V.snats dip) dip)).first) dip V.now)), (19, 10, .slice bW ((rnX (V.leases.filter (pruneP V.now)) (outV V.snats dip) ((minL (oldL V (outV V.snats dip) dip)).first) dip V.now).length) bX)] aq ?_
     obtain ⟨hL, e9, ch, aF⟩ := sto_run (c' := #[U4 ((rnL (V.leases.filter (pruneP V.now)) (outV V.snats dip) ((minL (oldL V (outV V.snats dip) dip)).first) dip V.now).vip), I6 ((rnL (V.leases.filter (pruneP V.now)) (outV V.snats dip) ((minL (oldL V (outV V.snats dip) dip)).first) dip V.now).first), U4 ((rnL (V.leases.filter (pruneP V.now)) (outV V.snats dip) ((minL (oldL V (outV V.snats dip) dip)).first) dip V.now).dip), I6 ((rnL (V.leases.filter (pruneP V.now)) (outV V.snats dip) ((minL (oldL V (outV V.snats dip) dip)).first) dip V.now).exp)]) Tryz.prog c7 2 50 be 0 (.agg #[U4 ((rnL (V.leases.filter (pruneP V.now)) (outV V.snats dip) ((minL (oldL V (outV V.snats dip) dip)).first) dip V.now).vip), I6 ((rnL (V.leases.filter (pruneP V.now)) (outV V.snats dip) ((minL (oldL V (outV V.snats dip) dip)).first) dip V.now).first), U4 ((rnL (V.leases.filter (pruneP V.now)) (outV V.snats dip) ((minL (oldL V (outV V.snats dip) dip)).first) dip V.now).dip), I6 ((rnL (V.leases.filter (pruneP V.now)) (outV V.snats dip) ((minL (oldL V (outV V.snats dip) dip)).first) dip V.now).exp)]) rfl (by kernel_rfl)
     have c8 := aq.trans ch (by first | (simp; done) | (simp [*]; done) | (have q_ := aq.size; simp; omega))
     refine WDu 20 e9 c8 ?_
     have c9 := e8.trans ch (fun x_ h_ => .inr (by rw [List.mem_singleton] at h_; subst h_; exact c1))
     have fa := own_fr e7 ch (c7.apartM 8 2 rfl rfl)
     refine WDq 21 12 (errV 118 (rnE (V.leases.filter (pruneP V.now)) (outV V.snats dip) ((minL (oldL V (outV V.snats dip) dip)).first) dip V.now)) c8 (WDd (QXn (aZ _ _ (WCs (fun iB ci => WCs (fun iC cj => WCg (WLq 1 [(120, errV 118 (rnE (V.leases.filter (pruneP V.now)) (outV V.snats dip) ((minL (oldL V (outV V.snats dip) dip)).first) dip V.now))] ?_)))))))
     have fb : ∀ w_, Sem.run Tryz.prog (do eqGuard .neq 97 (Operand.tmp 120) (Operand.const (.nilIface)) (errV 118 (rnE (V.leases.filter (pruneP V.now)) (outV V.snats dip) ((minL (oldL V (outV V.snats dip) dip)).first) dip V.now)) (.nilIface); binOp .neq 97 (errV 118 (rnE (V.leases.filter (pruneP V.now)) (outV V.snats dip) ((minL (oldL V (outV V.snats dip) dip)).first) dip V.now)) (.nilIface)) w_ = .ok (.bool (!(decide (rnE (V.leases.filter (pruneP V.now)) (outV V.snats dip) ((minL (oldL V (outV V.snats dip) dip)).first) dip V.now = 0)))) w_ := fun w_ => (err_neq _ (rnE (V.leases.filter (pruneP V.now)) (outV V.snats dip) ((minL (oldL V (outV V.snats dip) dip)).first) dip V.now) (decide (rnE (V.leases.filter (pruneP V.now)) (outV V.snats dip) ((minL (oldL V (outV V.snats dip) dip)).first) dip V.now = 0)) (by rfl) _)
     refine WL.sem (do eqGuard .neq 97 (Operand.tmp 120) (Operand.const (.nilIface)) (errV 118 (rnE (V.leases.filter (pruneP V.now)) (outV V.snats dip) ((minL (oldL V (outV V.snats dip) dip)).first) dip V.now)) (.nilIface); binOp .neq 97 (errV 118 (rnE (V.leases.filter (pruneP V.now)) (outV V.snats dip) ((minL (oldL V (outV V.snats dip) dip)).first) dip V.now)) (.nilIface)) 121 (.bool (!(decide (rnE (V.leases.filter (pruneP V.now)) (outV V.snats dip) ((minL (oldL V (outV V.snats dip) dip)).first) dip V.now = 0)))) (by kernel_rfl) (fb _) (WLd rfl (QXn (cj _ _ (WCa 121 (!(decide (rnE (V.leases.filter (pruneP V.now)) (outV V.snats dip) ((minL (oldL V (outV V.snats dip) dip)).first) dip V.now = 0))) rfl (fun aG => ?_) (fun aG => ?_)))))
     ·
      have hM : (decide (rnE (V.leases.filter (pruneP V.now)) (outV V.snats dip) ((minL (oldL V (outV V.snats dip) dip)).first) dip V.now = 0)) = false := by first | (simpa only [Bool.not_eq_true', Bool.not_eq_false'] using aG) | simpa using aG
      refine WCt rfl (WCs (fun iD da => WCg (WLq 1 [(122, errV 118 (rnE (V.leases.filter (pruneP V.now)) (outV V.snats dip) ((minL (oldL V (outV V.snats dip) dip)).first) dip V.now))] (WLk (result_ct (rnE (V.leases.filter (pruneP V.now)) (outV V.snats dip) ((minL (oldL V (outV V.snats dip) dip)).first) dip V.now) hL) ?_))))
      rintro _ iE ⟨rfl, db⟩
      refine ⟨_, rfl, ?_⟩
      have a1 := aF.call db
      have fc := c9.trans db (by simp)
      refine WLv (c' := #[I6 (rnE (V.leases.filter (pruneP V.now)) (outV V.snats dip) ((minL (oldL V (outV V.snats dip) dip)).first) dip V.now), U4 0, I6 0, U4 0, I6 0]) a1 1 52 g3 0 (.agg #[I6 (rnE (V.leases.filter (pruneP V.now)) (outV V.snats dip) ((minL (oldL V (outV V.snats dip) dip)).first) dip V.now), U4 0, I6 0, U4 0, I6 0]) (fun iF fd dc => ?_)
      have bh := (fc.mono (G := [g3]) (by simp)).trans fd (fun _ h_ => .inl h_)
      refine WLd rfl (QXn (da _ _ (WC.ret (QXr ?_))))
      refine (hret' _ _ (.agg #[I6 (rnE (V.leases.filter (pruneP V.now)) (outV V.snats dip) ((minL (oldL V (outV V.snats dip) dip)).first) dip V.now), U4 0, I6 0, U4 0, I6 0]) (fun a ha => ?_) ?_).1
      ·
       exact res_run ha ((ResR.cell rfl (run_ld (dc.get 1 rfl) rfl) ResR.nil)) rfl
      clear hN hret hret' da cj ci cf bg aZ bf bd bc cd cc ca b9 b8 aW aV aU hK9 hK2
      have hE_ : lendE V (outV V.snats dip) dip = rnE (leaL V) (outV V.snats dip) (minL (oldL V (outV V.snats dip) dip)).first dip V.now := by unfold lendE; rw [if_neg (fun e_ => by rw [e_] at hon_; simp at hon_; omega)]
      have hL_ : lendL V (outV V.snats dip) dip = rnL (leaL V) (outV V.snats dip) (minL (oldL V (outV V.snats dip) dip)).first dip V.now := by unfold lendL; rw [if_neg (fun e_ => by rw [e_] at hon_; simp at hon_; omega)]
      have hX_ : lendX V (outV V.snats dip) dip = rnX (leaL V) (outV V.snats dip) (minL (oldL V (outV V.snats dip) dip)).first dip V.now := by unfold lendX; rw [if_neg (fun e_ => by rw [e_] at hon_; simp at hon_; omega)]
      have hz_ : ¬ rnE (leaL V) (outV V.snats dip) (minL (oldL V (outV V.snats dip) dip)).first dip V.now = 0 := (by have q_ := aG; simpa [leaL] using q_)
      have hR_ : leaseR V dip = ⟨rnE (leaL V) (outV V.snats dip) (minL (oldL V (outV V.snats dip) dip)).first dip V.now, noL⟩ := by unfold leaseR; rw [if_neg (by rw [ax]; decide)]; rw [hE_, if_neg hz_]
      have hV_ : leaseC V dip = { V with leases := leaL V } := by unfold leaseC; rw [if_neg (by rw [ax]; decide)]; rw [hE_, if_neg hz_]
      rw [hR_, hV_]
      have fe := Cx.pickM dc [0] [0, 1, 2, 4, 5] (by decide) rfl rfl
      have ff := Cx_sw5 fe
      obtain ⟨fg, eb, cI⟩ := cfg_close (V := { V with leases := leaL V }) (xs := xs) ff (own_fr S_m89 bh (a1.apartM 0 1 rfl rfl)) (own_fr N_m89 bh (a1.apartM 1 1 rfl rfl)) (own_fr K_m89 bh (a1.apartM 2 1 rfl rfl)) (own_fr row52_m89 bh (a1.apartM 5 1 rfl rfl)) (svcsIn.fr in_m89 bh (a1.apartM 4 1 rfl rfl)) hvals
      exact ⟨_, rfl, eb, fg, cI⟩
     ·
      have hM : (decide (rnE (V.leases.filter (pruneP V.now)) (outV V.snats dip) ((minL (oldL V (outV V.snats dip) dip)).first) dip V.now = 0)) = true := by first | (simpa only [Bool.not_eq_true', Bool.not_eq_false'] using aG) | simpa using aG
      refine WCf rfl (WC.skip (QXn (ci _ _ (WCs (fun iG dd => WCg (WLz 5 [(128, P0 p 5), (125, .slice bW ((rnX (V.leases.filter (pruneP V.now)) (outV V.snats dip) ((minL (oldL V (outV V.snats dip) dip)).first) dip V.now).length) bX)] (WLv (c' := #[I6 V.epoch, I6 V.now, .slice AS xs.length cS, .slice AN V.snats.length cN, .slice AK V.sick.length cK, .slice bW ((rnX (V.leases.filter (pruneP V.now)) (outV V.snats dip) ((minL (oldL V (outV V.snats dip) dip)).first) dip V.now).length) bX]) aF 0 29 p 5 (.slice bW ((rnX (V.leases.filter (pruneP V.now)) (outV V.snats dip) ((minL (oldL V (outV V.snats dip) dip)).first) dip V.now).length) bX) (fun iH de aH => ?_))))))))
      have bH := (c9.mono (G := [p]) (by simp)).trans de (fun _ h_ => .inl h_)
      have fh := own_fr fa de (aF.apartM 8 0 rfl rfl)
      refine WLd rfl (QXn (dd _ _ (WCs (fun iI df => WCg (WLo 50 (P0 be 0) (.agg #[U4 ((rnL (V.leases.filter (pruneP V.now)) (outV V.snats dip) ((minL (oldL V (outV V.snats dip) dip)).first) dip V.now).vip), I6 ((rnL (V.leases.filter (pruneP V.now)) (outV V.snats dip) ((minL (oldL V (outV V.snats dip) dip)).first) dip V.now).first), U4 ((rnL (V.leases.filter (pruneP V.now)) (outV V.snats dip) ((minL (oldL V (outV V.snats dip) dip)).first) dip V.now).dip), I6 ((rnL (V.leases.filter (pruneP V.now)) (outV V.snats dip) ((minL (oldL V (outV V.snats dip) dip)).first) dip V.now).exp)]) 129 (run_ld (aH.get 2 rfl) rfl) (WLq 1 [(130, .agg #[I6 0, U4 ((rnL (V.leases.filter (pruneP V.now)) (outV V.snats dip) ((minL (oldL V (outV V.snats dip) dip)).first) dip V.now).vip), I6 ((rnL (V.leases.filter (pruneP V.now)) (outV V.snats dip) ((minL (oldL V (outV V.snats dip) dip)).first) dip V.now).first), U4 ((rnL (V.leases.filter (pruneP V.now)) (outV V.snats dip) ((minL (oldL V (outV V.snats dip) dip)).first) dip V.now).dip), I6 ((rnL (V.leases.filter (pruneP V.now)) (outV V.snats dip) ((minL (oldL V (outV V.snats dip) dip)).first) dip V.now).exp)])] (WLv (c' := #[I6 0, U4 ((rnL (V.leases.filter (pruneP V.now)) (outV V.snats dip) ((minL (oldL V (outV V.snats dip) dip)).first) dip V.now).vip), I6 ((rnL (V.leases.filter (pruneP V.now)) (outV V.snats dip) ((minL (oldL V (outV V.snats dip) dip)).first) dip V.now).first), U4 ((rnL (V.leases.filter (pruneP V.now)) (outV V.snats dip) ((minL (oldL V (outV V.snats dip) dip)).first) dip V.now).dip), I6 ((rnL (V.leases.filter (pruneP V.now)) (outV V.snats dip) ((minL (oldL V (outV V.snats dip) dip)).first) dip V.now).exp)]) aH 1 52 g3 0 (.agg #[I6 0, U4 ((rnL (V.leases.filter (pruneP V.now)) (outV V.snats dip) ((minL (oldL V (outV V.snats dip) dip)).first) dip V.now).vip), I6 ((rnL (V.leases.filter (pruneP V.now)) (outV V.snats dip) ((minL (oldL V (outV V.snats dip) dip)).first) dip V.now).first), U4 ((rnL (V.leases.filter (pruneP V.now)) (outV V.snats dip) ((minL (oldL V (outV V.snats dip) dip)).first) dip V.now).dip), I6 ((rnL (V.leases.filter (pruneP V.now)) (outV V.snats dip) ((minL (oldL V (outV V.snats dip) dip)).first) dip V.now).exp)]) (fun iJ bi dg => ?_))))))))
      have fi := own_fr (own_fr S_m89 bH (aF.apartM 0 0 rfl rfl)) bi (aH.apartM 0 1 rfl rfl)
      have fj := own_fr (own_fr N_m89 bH (aF.apartM 1 0 rfl rfl)) bi (aH.apartM 1 1 rfl rfl)
      have fk := own_fr (own_fr K_m89 bH (aF.apartM 2 0 rfl rfl)) bi (aH.apartM 2 1 rfl rfl)
      have fl := svcsIn.fr (svcsIn.fr in_m89 bH (aF.apartM 4 0 rfl rfl)) bi (aH.apartM 4 1 rfl rfl)
      have fm := own_fr fh bi (aH.apartM 8 1 rfl rfl)
      refine WLd rfl (QXn (df _ _ (WC.ret ?_)))
      refine (hret' _ _ (.agg #[I6 0, U4 ((rnL (V.leases.filter (pruneP V.now)) (outV V.snats dip) ((minL (oldL V (outV V.snats dip) dip)).first) dip V.now).vip), I6 ((rnL (V.leases.filter (pruneP V.now)) (outV V.snats dip) ((minL (oldL V (outV V.snats dip) dip)).first) dip V.now).first), U4 ((rnL (V.leases.filter (pruneP V.now)) (outV V.snats dip) ((minL (oldL V (outV V.snats dip) dip)).first) dip V.now).dip), I6 ((rnL (V.leases.filter (pruneP V.now)) (outV V.snats dip) ((minL (oldL V (outV V.snats dip) dip)).first) dip V.now).exp)]) (fun a ha => ?_) ?_).1
      ·
       exact res_run ha ((ResR.cell rfl (run_ld (dg.get 1 rfl) rfl) ResR.nil)) rfl
      clear hN hret hret' df dd cj ci cf bg aZ bf bd bc cd cc ca b9 b8 aW aV aU hK9 hK2
      have hE_ : lendE V (outV V.snats dip) dip = rnE (leaL V) (outV V.snats dip) (minL (oldL V (outV V.snats dip) dip)).first dip V.now := by unfold lendE; rw [if_neg (fun e_ => by rw [e_] at hon_; simp at hon_; omega)]
      have hL_ : lendL V (outV V.snats dip) dip = rnL (leaL V) (outV V.snats dip) (minL (oldL V (outV V.snats dip) dip)).first dip V.now := by unfold lendL; rw [if_neg (fun e_ => by rw [e_] at hon_; simp at hon_; omega)]
      have hX_ : lendX V (outV V.snats dip) dip = rnX (leaL V) (outV V.snats dip) (minL (oldL V (outV V.snats dip) dip)).first dip V.now := by unfold lendX; rw [if_neg (fun e_ => by rw [e_] at hon_; simp at hon_; omega)]
      have hz_ : rnE (leaL V) (outV V.snats dip) (minL (oldL V (outV V.snats dip) dip)).first dip V.now = 0 := (by have q_ := aG; simpa [leaL] using q_)
      have hR_ : leaseR V dip = ⟨0, rnL (leaL V) (outV V.snats dip) (minL (oldL V (outV V.snats dip) dip)).first dip V.now⟩ := by unfold leaseR; rw [if_neg (by rw [ax]; decide)]; rw [hE_, if_pos hz_, hL_, hz_]
      have hV_ : leaseC V dip = { V with leases := rnX (leaL V) (outV V.snats dip) (minL (oldL V (outV V.snats dip) dip)).first dip V.now } := by unfold leaseC; rw [if_neg (by rw [ax]; decide)]; rw [hE_, if_pos hz_, hX_]
      rw [hR_, hV_]
      have fn := Cx.pickM dg [0] [0, 1, 2, 4, 8] (by decide) rfl rfl
      have fo := Cx_sw5 fn
      obtain ⟨fp, ec, cJ⟩ := cfg_close (V := { V with leases := rnX (leaL V) (outV V.snats dip) (minL (oldL V (outV V.snats dip) dip)).first dip V.now }) (xs := xs) fo fi fj fk fm fl hvals
      exact ⟨_, rfl, ec, fp, cJ⟩
    ·
     have hI : (n5 : Int) ≤ 0 := by have q_ := of_decide_eq_false ce; omega
     refine WCf rfl (WC.drawC c2 [be] (by kernel_rfl) (fun hO fq bj ai => ?_))
     have dh := bF.trans fq (by simp)
     refine WDx 10 [(0, 104, P0 p 0), (1, 105, P0 p 0), (2, 106, P0 p 0), (3, 107, P0 p 5), (5, 109, U4 (outV V.snats dip)), (6, 110, U4 dip), (7, 111, P0 p 0), (8, 112, P0 p 0), (9, 113, P0 p 0), (10, 114, P0 p 1)] ai (WDm 4 29 (P0 p 5) (.slice b5 ((V.leases.filter (pruneP V.now)).length) b6) 108 (fun _ hS_ => run_ld (Fr.has hS_ (bj.get 0 rfl) (by simpa using bj.ne 0 2 rfl rfl (by decide))) rfl) ai (WD.sem 11 (Instr.loadAt 3 (P0 p 1)) 115 (I6 V.now) (by kernel_rfl) (by kernel_rfl) (run_ld (bj.get 0 rfl) rfl) ai (WDc 12 (Grant_ct b5 b6 (V.leases.filter (pruneP V.now)) (outV V.snats dip) dip V.now hO (own_rd (own_fr row52_m89 dh (by simp)) encL_len (by decide)) (fun l_ h_ => hw.lok l_ (List.mem_filter.1 h_).1) (by omega) hvip_ hd (hg.frN bj.fr (fun b_ off_ e_ => by cases e_; exact h0))) ?_)))
     rintro _ iK ⟨v_, rfl, ck, bI⟩
     have di := bj.callN ck (own_ge bI) (own_lt bI)
     obtain ⟨bY, bZ, rfl, hP⟩ := own_form bI
     have fs := own_base (b' := 0) bI (fun _ _ => Nat.zero_le _)
     have ar := ai.trans ck (by simp)
     refine ⟨_, rfl, ar, ?_⟩
     have ft := dh.trans ck (by simp)
     refine WDx 5 [(13, 103, .tuple #[.slice bY ((grX (V.leases.filter (pruneP V.now)) (outV V.snats dip) dip V.now).length) bZ, .agg #[U4 ((grL (V.leases.filter (pruneP V.now)) (outV V.snats dip) dip V.now).vip), I6 ((grL (V.leases.filter (pruneP V.now)) (outV V.snats dip) dip V.now).first), U4 ((grL (V.leases.filter (pruneP V.now)) (outV V.snats dip) dip V.now).dip), I6 ((grL (V.leases.filter (pruneP V.now)) (outV V.snats dip) dip V.now).exp)], errV 118 (grE (V.leases.filter (pruneP V.now)) (outV V.snats dip) dip V.now)]), (14, 117, .slice bY ((grX (V.leases.filter (pruneP V.now)) (outV V.snats dip) dip V.now).length) bZ), (15, 118, .agg #[U4 ((grL (V.leases.filter (pruneP V.now)) (outV V.snats dip) dip V.now).vip), I6 ((grL (V.leases.filter (pruneP V.now)) (outV V.snats dip) dip V.now).first), U4 ((grL (V.leases.filter (pruneP V.now)) (outV V.snats dip) dip V.now).dip), I6 ((grL (V.leases.filter (pruneP V.now)) (outV V.snats dip) dip V.now).exp)]), (16, 119, errV 118 (grE (V.leases.filter (pruneP V.now)) (outV V.snats dip) dip V.now)), (17, 10, .slice bY ((grX (V.leases.filter (pruneP V.now)) (outV V.snats dip) dip V.now).length) bZ)] ar ?_
     obtain ⟨hQ, fu, cl, aI⟩ := sto_run (c' := #[U4 ((grL (V.leases.filter (pruneP V.now)) (outV V.snats dip) dip V.now).vip), I6 ((grL (V.leases.filter (pruneP V.now)) (outV V.snats dip) dip V.now).first), U4 ((grL (V.leases.filter (pruneP V.now)) (outV V.snats dip) dip V.now).dip), I6 ((grL (V.leases.filter (pruneP V.now)) (outV V.snats dip) dip V.now).exp)]) Tryz.prog di 2 50 be 0 (.agg #[U4 ((grL (V.leases.filter (pruneP V.now)) (outV V.snats dip) dip V.now).vip), I6 ((grL (V.leases.filter (pruneP V.now)) (outV V.snats dip) dip V.now).first), U4 ((grL (V.leases.filter (pruneP V.now)) (outV V.snats dip) dip V.now).dip), I6 ((grL (V.leases.filter (pruneP V.now)) (outV V.snats dip) dip V.now).exp)]) rfl (by kernel_rfl)
     have dj := ar.trans cl (by first | (simp; done) | (simp [*]; done) | (have q_ := ar.size; simp; omega))
     refine WDu 18 fu dj ?_
     have dk := ft.trans cl (fun x_ h_ => .inr (by rw [List.mem_singleton] at h_; subst h_; exact c1))
     have fv := own_fr fs cl (di.apartM 8 2 rfl rfl)
     refine WDq 19 12 (errV 118 (grE (V.leases.filter (pruneP V.now)) (outV V.snats dip) dip V.now)) dj (WDd (QXn (aZ _ _ (WCs (fun iL cm => WCs (fun iM cn => WCg (WLq 1 [(120, errV 118 (grE (V.leases.filter (pruneP V.now)) (outV V.snats dip) dip V.now))] ?_)))))))
     have fw : ∀ w_, Sem.run Tryz.prog (do eqGuard .neq 97 (Operand.tmp 120) (Operand.const (.nilIface)) (errV 118 (grE (V.leases.filter (pruneP V.now)) (outV V.snats dip) dip V.now)) (.nilIface); binOp .neq 97 (errV 118 (grE (V.leases.filter (pruneP V.now)) (outV V.snats dip) dip V.now)) (.nilIface)) w_ = .ok (.bool (!(decide (grE (V.leases.filter (pruneP V.now)) (outV V.snats dip) dip V.now = 0)))) w_ := fun w_ => (err_neq _ (grE (V.leases.filter (pruneP V.now)) (outV V.snats dip) dip V.now) (decide (grE (V.leases.filter (pruneP V.now)) (outV V.snats dip) dip V.now = 0)) (by rfl) _)
     refine WL.sem (do eqGuard .neq 97 (Operand.tmp 120) (Operand.const (.nilIface)) (errV 118 (grE (V.leases.filter (pruneP V.now)) (outV V.snats dip) dip V.now)) (.nilIface); binOp .neq 97 (errV 118 (grE (V.leases.filter (pruneP V.now)) (outV V.snats dip) dip V.now)) (.nilIface)) 121 (.bool (!(decide (grE (V.leases.filter (pruneP V.now)) (outV V.snats dip) dip V.now = 0)))) (by kernel_rfl) (fw _) (WLd rfl (QXn (cn _ _ (WCa 121 (!(decide (grE (V.leases.filter (pruneP V.now)) (outV V.snats dip) dip V.now = 0))) rfl (fun aJ => ?_) (fun aJ => ?_)))))
     ·
      have hR : (decide (grE (V.leases.filter (pruneP V.now)) (outV V.snats dip) dip V.now = 0)) = false := by first | (simpa only [Bool.not_eq_true', Bool.not_eq_false'] using aJ) | simpa using aJ
      refine WCt rfl (WCs (fun iN dl => WCg (WLq 1 [(122, errV 118 (grE (V.leases.filter (pruneP V.now)) (outV V.snats dip) dip V.now))] (WLk (result_ct (grE (V.leases.filter (pruneP V.now)) (outV V.snats dip) dip V.now) hQ) ?_))))
      rintro _ iO ⟨rfl, dm⟩
      refine ⟨_, rfl, ?_⟩
      have a2 := aI.call dm
      have fx := dk.trans dm (by simp)
      refine WLv (c' := #[I6 (grE (V.leases.filter (pruneP V.now)) (outV V.snats dip) dip V.now), U4 0, I6 0, U4 0, I6 0]) a2 1 52 g3 0 (.agg #[I6 (grE (V.leases.filter (pruneP V.now)) (outV V.snats dip) dip V.now), U4 0, I6 0, U4 0, I6 0]) (fun iP fy dn => ?_)
      have bk := (fx.mono (G := [g3]) (by simp)).trans fy (fun _ h_ => .inl h_)
      refine WLd rfl (QXn (dl _ _ (WC.ret (QXr ?_))))
      refine (hret' _ _ (.agg #[I6 (grE (V.leases.filter (pruneP V.now)) (outV V.snats dip) dip V.now), U4 0, I6 0, U4 0, I6 0]) (fun a ha => ?_) ?_).1
      ·
       exact res_run ha ((ResR.cell rfl (run_ld (dn.get 1 rfl) rfl) ResR.nil)) rfl
      clear hN hret hret' dl cn cm bg aZ bf bd bc cd cc ca b9 b8 aW aV aU hK9 hK2
      have hE_ : lendE V (outV V.snats dip) dip = grE (leaL V) (outV V.snats dip) dip V.now := by unfold lendE; rw [if_pos (List.eq_nil_of_length_eq_zero (by omega))]
      have hL_ : lendL V (outV V.snats dip) dip = grL (leaL V) (outV V.snats dip) dip V.now := by unfold lendL; rw [if_pos (List.eq_nil_of_length_eq_zero (by omega))]
      have hX_ : lendX V (outV V.snats dip) dip = grX (leaL V) (outV V.snats dip) dip V.now := by unfold lendX; rw [if_pos (List.eq_nil_of_length_eq_zero (by omega))]
      have hz_ : ¬ grE (leaL V) (outV V.snats dip) dip V.now = 0 := (by have q_ := aJ; simpa [leaL] using q_)
      have hR_ : leaseR V dip = ⟨grE (leaL V) (outV V.snats dip) dip V.now, noL⟩ := by unfold leaseR; rw [if_neg (by rw [ax]; decide)]; rw [hE_, if_neg hz_]
      have hV_ : leaseC V dip = { V with leases := leaL V } := by unfold leaseC; rw [if_neg (by rw [ax]; decide)]; rw [hE_, if_neg hz_]
      rw [hR_, hV_]
      have fz := Cx.pickM dn [0] [0, 1, 2, 4, 5] (by decide) rfl rfl
      have fA := Cx_sw5 fz
      obtain ⟨fB, ed, cM⟩ := cfg_close (V := { V with leases := leaL V }) (xs := xs) fA (own_fr S_m89 bk (a2.apartM 0 1 rfl rfl)) (own_fr N_m89 bk (a2.apartM 1 1 rfl rfl)) (own_fr K_m89 bk (a2.apartM 2 1 rfl rfl)) (own_fr row52_m89 bk (a2.apartM 5 1 rfl rfl)) (svcsIn.fr in_m89 bk (a2.apartM 4 1 rfl rfl)) hvals
      exact ⟨_, rfl, ed, fB, cM⟩
     ·
      have hR : (decide (grE (V.leases.filter (pruneP V.now)) (outV V.snats dip) dip V.now = 0)) = true := by first | (simpa only [Bool.not_eq_true', Bool.not_eq_false'] using aJ) | simpa using aJ
      refine WCf rfl (WC.skip (QXn (cm _ _ (WCs (fun iQ dp => WCg (WLz 5 [(128, P0 p 5), (125, .slice bY ((grX (V.leases.filter (pruneP V.now)) (outV V.snats dip) dip V.now).length) bZ)] (WLv (c' := #[I6 V.epoch, I6 V.now, .slice AS xs.length cS, .slice AN V.snats.length cN, .slice AK V.sick.length cK, .slice bY ((grX (V.leases.filter (pruneP V.now)) (outV V.snats dip) dip V.now).length) bZ]) aI 0 29 p 5 (.slice bY ((grX (V.leases.filter (pruneP V.now)) (outV V.snats dip) dip V.now).length) bZ) (fun iR dq aK => ?_))))))))
      have bJ := (dk.mono (G := [p]) (by simp)).trans dq (fun _ h_ => .inl h_)
      have fC := own_fr fv dq (aI.apartM 8 0 rfl rfl)
      refine WLd rfl (QXn (dp _ _ (WCs (fun iS dr => WCg (WLo 50 (P0 be 0) (.agg #[U4 ((grL (V.leases.filter (pruneP V.now)) (outV V.snats dip) dip V.now).vip), I6 ((grL (V.leases.filter (pruneP V.now)) (outV V.snats dip) dip V.now).first), U4 ((grL (V.leases.filter (pruneP V.now)) (outV V.snats dip) dip V.now).dip), I6 ((grL (V.leases.filter (pruneP V.now)) (outV V.snats dip) dip V.now).exp)]) 129 (run_ld (aK.get 2 rfl) rfl) (WLq 1 [(130, .agg #[I6 0, U4 ((grL (V.leases.filter (pruneP V.now)) (outV V.snats dip) dip V.now).vip), I6 ((grL (V.leases.filter (pruneP V.now)) (outV V.snats dip) dip V.now).first), U4 ((grL (V.leases.filter (pruneP V.now)) (outV V.snats dip) dip V.now).dip), I6 ((grL (V.leases.filter (pruneP V.now)) (outV V.snats dip) dip V.now).exp)])] (WLv (c' := #[I6 0, U4 ((grL (V.leases.filter (pruneP V.now)) (outV V.snats dip) dip V.now).vip), I6 ((grL (V.leases.filter (pruneP V.now)) (outV V.snats dip) dip V.now).first), U4 ((grL (V.leases.filter (pruneP V.now)) (outV V.snats dip) dip V.now).dip), I6 ((grL (V.leases.filter (pruneP V.now)) (outV V.snats dip) dip V.now).exp)]) aK 1 52 g3 0 (.agg #[I6 0, U4 ((grL (V.leases.filter (pruneP V.now)) (outV V.snats dip) dip V.now).vip), I6 ((grL (V.leases.filter (pruneP V.now)) (outV V.snats dip) dip V.now).first), U4 ((grL (V.leases.filter (pruneP V.now)) (outV V.snats dip) dip V.now).dip), I6 ((grL (V.leases.filter (pruneP V.now)) (outV V.snats dip) dip V.now).exp)]) (fun iT bl ds => ?_))))))))
      have fD := own_fr (own_fr S_m89 bJ (aI.apartM 0 0 rfl rfl)) bl (aK.apartM 0 1 rfl rfl)
      have fE := own_fr (own_fr N_m89 bJ (aI.apartM 1 0 rfl rfl)) bl (aK.apartM 1 1 rfl rfl)
      have fF := own_fr (own_fr K_m89 bJ (aI.apartM 2 0 rfl rfl)) bl (aK.apartM 2 1 rfl rfl)
      have fG := svcsIn.fr (svcsIn.fr in_m89 bJ (aI.apartM 4 0 rfl rfl)) bl (aK.apartM 4 1 rfl rfl)
      have fH := own_fr fC bl (aK.apartM 8 1 rfl rfl)
      refine WLd rfl (QXn (dr _ _ (WC.ret ?_)))
      refine (hret' _ _ (.agg #[I6 0, U4 ((grL (V.leases.filter (pruneP V.now)) (outV V.snats dip) dip V.now).vip), I6 ((grL (V.leases.filter (pruneP V.now)) (outV V.snats dip) dip V.now).first), U4 ((grL (V.leases.filter (pruneP V.now)) (outV V.snats dip) dip V.now).dip), I6 ((grL (V.leases.filter (pruneP V.now)) (outV V.snats dip) dip V.now).exp)]) (fun a ha => ?_) ?_).1
      ·
       exact res_run ha ((ResR.cell rfl (run_ld (ds.get 1 rfl) rfl) ResR.nil)) rfl
      clear hN hret hret' dr dp cn cm bg aZ bf bd bc cd cc ca b9 b8 aW aV aU hK9 hK2
      have hE_ : lendE V (outV V.snats dip) dip = grE (leaL V) (outV V.snats dip) dip V.now := by unfold lendE; rw [if_pos (List.eq_nil_of_length_eq_zero (by omega))]
      have hL_ : lendL V (outV V.snats dip) dip = grL (leaL V) (outV V.snats dip) dip V.now := by unfold lendL; rw [if_pos (List.eq_nil_of_length_eq_zero (by omega))]
      have hX_ : lendX V (outV V.snats dip) dip = grX (leaL V) (outV V.snats dip) dip V.now := by unfold lendX; rw [if_pos (List.eq_nil_of_length_eq_zero (by omega))]
      have hz_ : grE (leaL V) (outV V.snats dip) dip V.now = 0 := (by have q_ := aJ; simpa [leaL] using q_)
      have hR_ : leaseR V dip = ⟨0, grL (leaL V) (outV V.snats dip) dip V.now⟩ := by unfold leaseR; rw [if_neg (by rw [ax]; decide)]; rw [hE_, if_pos hz_, hL_, hz_]
      have hV_ : leaseC V dip = { V with leases := grX (leaL V) (outV V.snats dip) dip V.now } := by unfold leaseC; rw [if_neg (by rw [ax]; decide)]; rw [hE_, if_pos hz_, hX_]
      rw [hR_, hV_]
      have fI := Cx.pickM ds [0] [0, 1, 2, 4, 8] (by decide) rfl rfl
      have fJ := Cx_sw5 fI
      obtain ⟨fK, ee, cO⟩ := cfg_close (V := { V with leases := grX (leaL V) (outV V.snats dip) dip V.now }) (xs := xs) fJ fD fE fF fH fG hvals
      exact ⟨_, rfl, ee, fK, cO⟩
  ·
   refine WO.sem 10 (Instr.loadAt 3 (P0 p 1)) 37 (I6 V.now) (by kernel_rfl) (by kernel_rfl) (run_ld (bS.get 0 rfl) rfl) al (WD.sem 5 (Instr.loadAt 29 (P0 p 5)) 32 (.slice AL V.leases.length cL) (by kernel_rfl) (by kernel_rfl) (run_ld (bS.get 0 rfl) rfl) al (WDc 11 (Prune_ct AL cL V.leases V.now h7 (own_rd (own_fr hrL cD (by simp)) encL_len (by decide)) hw.lok (by first | omega | simp)) ?_))
   rintro _ iU ⟨v_, rfl, co, bK⟩
   have aL := bS.callN co (own_ge bK) (own_lt bK)
   obtain ⟨ay, az, rfl, hS⟩ := own_form bK
   have fL := own_base (b' := 0) bK (fun _ _ => Nat.zero_le _)
   have a3 := al.trans co (by simp)
   refine ⟨_, rfl, a3, ?_⟩
   have fM := cD.trans co (by simp)
   refine WDx 3 [(12, 39, P0 p 0), (13, 40, P0 p 0), (14, 41, P0 p 5)] a3 ?_
   obtain ⟨iV, fN, cp, fO⟩ := sto_run (c' := #[I6 V.epoch, I6 V.now, .slice AS xs.length cS, .slice AN V.snats.length cN, .slice AK V.sick.length cK, .slice ay ((V.leases.filter (pruneP V.now)).length) az]) Tryz.prog aL 0 29 p 5 (.slice ay ((V.leases.filter (pruneP V.now)).length) az) rfl (by kernel_rfl)
   have fP := a3.trans cp (by first | (simp; done) | (simp [*]; done) | (have q_ := a3.size; simp; omega))
   refine WDu 15 fN fP ?_
   have fQ := (fM.mono (G := [p]) (by simp)).trans cp (fun _ h_ => .inl h_)
   have fR := own_fr fL cp (aL.apartM 5 0 rfl rfl)
   refine WDd (QXn (aW _ _ (WCs (fun iW bm => WCg (WLq 1 [(7, .slice none 0 0)] (WLd rfl (QXn (bm _ _ (WCs (fun iX bn => WCs (fun iY bo => ?_)))))))))))
   refine WC.drawC fO [] (by kernel_rfl) (fun hT dt cq aj => ?_)
   have fS := fQ.trans dt (by simp)
   have du := own_fr fR dt (by simp)
   refine WDx 10 [(0, 42, P0 p 0), (1, 43, P0 p 0), (2, 44, P0 p 0), (3, 45, P0 p 5), (5, 47, U4 dip), (6, 48, P0 p 0), (7, 49, P0 p 0), (8, 50, P0 p 0), (9, 51, P0 p 1), (13, 55, I6 0)] aj (WDm 4 29 (P0 p 5) (.slice ay ((V.leases.filter (pruneP V.now)).length) az) 46 (fun _ hS_ => run_ld (Fr.has hS_ (cq.get 0 rfl) (by simp)) rfl) aj (WDm 10 3 (P0 p 1) (I6 V.now) 52 (fun _ hS_ => run_ld (Fr.has hS_ (cq.get 0 rfl) (by simp)) rfl) aj (WDc 11 (Of_ct ay az (V.leases.filter (pruneP V.now)) dip V.now hT (own_rd du encL_len (by decide)) (fun l_ h_ => hw.lok l_ (List.mem_filter.1 h_).1) (by first | omega | simp)) ?_)))
   rintro _ iZ ⟨v_, rfl, bL, bM⟩
   have fT := cq.callN bL (own_ge bM) (own_lt bM)
   obtain ⟨cP, cQ, rfl, hU⟩ := own_form bM
   have dv := own_base (b' := 0) bM (fun _ _ => Nat.zero_le _)
   have dw := aj.trans bL (by simp)
   refine ⟨_, rfl, dw, ?_⟩
   have bp := fS.trans bL (by simp)
   have fU := own_fr du bL (by simp)
   refine WDq 12 54 (I6 (((V.leases.filter (pruneP V.now)).filter (ofP dip V.now)).length : Int)) dw (WDd (QXn (bo _ _ (WC.block ?_))))
   have fV := fT.addNil
   have hol_ := own_count encL_len (by decide) dv
   have holb_ : ((V.leases.filter (pruneP V.now)).filter (ofP dip V.now)).length ≤ n := Nat.le_trans (List.length_filter_le _ _) (Nat.le_trans (List.length_filter_le _ _) hw.ln)
   refine WC.loop (fun m_ E_ w_ => ∃ (k : Nat) (A5 : Option Addr) (n5 c5 : Nat), m_ = ((V.leases.filter (pruneP V.now)).filter (ofP dip V.now)).length - k ∧ E_ = [(0, P0 p 0), (1, U4 dip), (4, P0 g3 0), (5, U4 (outV V.snats dip)), (6, .bool (outB V.snats dip)), (7, .slice A5 n5 c5), (53, .slice cP (((V.leases.filter (pruneP V.now)).filter (ofP dip V.now)).length) cQ), (54, I6 (((V.leases.filter (pruneP V.now)).filter (ofP dip V.now)).length : Int)), (55, I6 (k : Int))] ∧ Cx w F w_ [(p, .cells #[I6 V.epoch, I6 V.now, .slice AS xs.length cS, .slice AN V.snats.length cN, .slice AK V.sick.length cK, .slice ay ((V.leases.filter (pruneP V.now)).length) az] 72 (0, 0)), (g3, .cells #[I6 0, U4 0, I6 0, U4 0, I6 0] 52)] [blk (.slice AS xs.length cS), blk (.slice AN V.snats.length cN), blk (.slice AK V.sick.length cK), blk (.slice AL V.leases.length cL), R, blk (.slice ay ((V.leases.filter (pruneP V.now)).length) az), blk (.slice cP (((V.leases.filter (pruneP V.now)).filter (ofP dip V.now)).length) cQ), blk (.slice A5 n5 c5)] ∧ World.ownsRow w_ 0 43 4 (.slice AS xs.length cS) xs.length (xs.flatMap cellsS) ∧ World.ownsRow w_ 0 79 2 (.slice AN V.snats.length cN) V.snats.length (V.snats.flatMap cellsN) ∧ World.ownsRow w_ 0 40 1 (.slice AK V.sick.length cK) V.sick.length (V.sick.flatMap (Go.Tw.encI .u32)) ∧ World.ownsRow w_ 0 50 4 (.slice AL V.leases.length cL) V.leases.length (V.leases.flatMap encL) ∧ svcsIn w_ R xs ∧ World.ownsRow w_ 0 50 4 (.slice ay ((V.leases.filter (pruneP V.now)).length) az) ((V.leases.filter (pruneP V.now)).length) ((V.leases.filter (pruneP V.now)).flatMap encL) ∧ World.ownsRow w_ 0 50 4 (.slice cP (((V.leases.filter (pruneP V.now)).filter (ofP dip V.now)).length) cQ) (((V.leases.filter (pruneP V.now)).filter (ofP dip V.now)).length) (((V.leases.filter (pruneP V.now)).filter (ofP dip V.now)).flatMap encL) ∧ World.ownsRow w_ 0 50 4 (.slice A5 n5 c5) n5 (((((V.leases.filter (pruneP V.now)).filter (ofP dip V.now)).take k).filter (oldP (outV V.snats dip) V.now)).flatMap encL) ∧ (k ≤ ((V.leases.filter (pruneP V.now)).filter (ofP dip V.now)).length)) ⟨_, _, ⟨0, none, 0, 0, rfl, rfl, fV, (own_fr hrS bp (aL.apartM 0 0 rfl rfl)), (own_fr hrN bp (aL.apartM 1 0 rfl rfl)), (own_fr hrK bp (aL.apartM 2 0 rfl rfl)), (own_fr hrL bp (aL.apartM 3 0 rfl rfl)), (svcsIn.fr hin bp (aL.apartM 4 0 rfl rfl)), fU, dv, own_nil _ _ _ _, Nat.zero_le _⟩, sub_of ⟨rfl, rfl, rfl, rfl, rfl, rfl, rfl, rfl, rfl, trivial⟩⟩ (fun m387 E_ i0 i1 cr fW => ?_)
   obtain ⟨k, A5, n5, c5, rfl, rfl, dx, S_m387, N_m387, K_m387, L_m387, in_m387, row350_m387, row382_m387, hold, hk⟩ := fW
   have hon_ := own_count encL_len (by decide) hold
   have honb_ : ((((V.leases.filter (pruneP V.now)).filter (ofP dip V.now)).take k).filter (oldP (outV V.snats dip) V.now)).length ≤ n := Nat.le_trans (List.length_filter_le _ _) (Nat.le_trans (by rw [List.length_take]; exact Nat.min_le_right _ _) holb_)
   refine WCs (fun i2 bq => WCg (WLq 1 [(56, .bool (decide ((k : Int) < (((V.leases.filter (pruneP V.now)).filter (ofP dip V.now)).length : Int))))] (WLd rfl (QXn (bq _ _ (WCs (fun i3 br => WCa 56 (decide ((k : Int) < (((V.leases.filter (pruneP V.now)).filter (ofP dip V.now)).length : Int))) rfl (fun a4 => ?_) (fun a4 => ?_))))))))
   ·
    have cR : (k : Int) < (((V.leases.filter (pruneP V.now)).filter (ofP dip V.now)).length : Int) := by have q_ := of_decide_eq_true a4; omega
    refine WCt rfl (WC.skip (QXn (br _ _ (WCs (fun i4 cs => WC.block (WCs (fun i5 fX => ?_)))))))
    refine WCg ?_
    have ic := own_count encL_len (by decide) row382_m387
    obtain ⟨ab, a5⟩ := get_some (xs := ((V.leases.filter (pruneP V.now)).filter (ofP dip V.now))) (i := k) (by omega)
    obtain ⟨b401, dy⟩ := own_addr (by decide) encL_len row382_m387 a5
    refine WLi cP (((V.leases.filter (pruneP V.now)).filter (ofP dip V.now)).length) cQ 57 .i64 (k : Int) b401 0 k 4 (by kernel_rfl) dy (by omega) (by omega) (k * 4) (by first | (simp; done) | omega) (WLo 50 (P0 b401 (k * 4)) (.agg #[U4 ab.vip, I6 ab.first, U4 ab.dip, I6 ab.exp]) 58 (run_rdN (l := [U4 ab.vip, I6 ab.first, U4 ab.dip, I6 ab.exp]) rfl rfl (fun j u hu => by have hq_ := Rd.cell (own_rd row382_m387 encL_len (by decide)) dy a5 j u hu; simpa [Nat.add_assoc] using hq_)) ?_)
    obtain ⟨hm1_, hm2_⟩ := List.mem_filter.1 (List.mem_of_getElem? a5)
    obtain ⟨hm3_, hm4_⟩ := in_leaL hm1_
    obtain ⟨hq1_, hq2_, hq3_, hq4_, hq5_, hq6_, hq7_, hq8_⟩ := hw.lok _ hm3_
    refine WLb dx (.cells #[U4 0, I6 0, U4 0, I6 0] 50) 9 (fun b0 i6 fY fZ f0 => WLv (c' := #[U4 ab.vip, I6 ab.first, U4 ab.dip, I6 ab.exp]) f0 2 50 b0 0 (.agg #[U4 ab.vip, I6 ab.first, U4 ab.dip, I6 ab.exp]) (fun i7 f1 f2 => ?_))
    have f3 := fZ.trans f1 (fun x_ h_ => .inr (by rw [List.mem_singleton] at h_; subst h_; exact fY))
    refine WLd rfl (QXn (fX _ _ (WCs (fun i8 dz => WC.drawC f2 [] (by kernel_rfl) (fun i9 f4 aM ad => ?_)))))
    have af := f3.trans f4 (by simp)
    refine WDx 2 [(0, 59, P0 b0 0), (2, 61, U4 (outV V.snats dip))] ad (WDm 1 40 (P0 b0 0) (U4 ab.vip) 60 (fun _ hS_ => run_ld (Fr.has hS_ (aM.get 2 rfl) (by simp)) rfl) ad (WDx 2 [(3, 62, .bool (ab.vip == (outV V.snats dip))), (4, 63, .bool (ab.vip == (outV V.snats dip)))] ad (WDa 63 (ab.vip == (outV V.snats dip)) rfl (fun a6 => ?_) (fun a6 => ?_))))
    ·
     have cT : ab.vip = (outV V.snats dip) := by simpa using a6
     refine WDx 5 [(5, 64, P0 b0 3), (7, 66, P0 p 0), (8, 67, P0 p 0), (9, 68, P0 p 0), (10, 69, P0 p 1)] ad (WDm 6 3 (P0 b0 3) (I6 ab.exp) 65 (fun _ hS_ => run_ld (Fr.has hS_ (aM.get 2 rfl) (by simp)) rfl) ad (WDm 11 3 (P0 p 1) (I6 V.now) 70 (fun _ hS_ => run_ld (Fr.has hS_ (aM.get 0 rfl) (by simp)) rfl) ad (WDq 12 71 (I6 (IntKind.i64.wrap (ab.exp - V.now))) ad (WD.recast (show (I6 (IntKind.i64.wrap (ab.exp - V.now)) : Value) = I6 (ab.exp - V.now) from by rw [wrap_in_i64 (ab.exp - V.now) (by omega) (by omega)]) (WDx 2 [(13, 72, .bool (decide ((ab.exp - V.now) < 32))), (14, 73, .bool (decide ((ab.exp - V.now) < 32)))] ad ?_)))))
     refine WDd (QXn (dz _ _ (WCa 73 (decide ((ab.exp - V.now) < 32)) rfl (fun bs => ?_) (fun bs => ?_))))
     ·
      have ef : (ab.exp - V.now) < 32 := by have q_ := of_decide_eq_true bs; omega
      refine WCt rfl (WCg (WLq 1 [(74, .slice A5 n5 c5)] (WLo 50 (P0 b0 0) (.agg #[U4 ab.vip, I6 ab.first, U4 ab.dip, I6 ab.exp]) 75 (run_ld (aM.get 2 rfl) rfl) (WL.newM aM (fun b => .slice (some ⟨b, 0, none⟩) 1 1) (.cells #[U4 ab.vip, I6 ab.first, U4 ab.dip, I6 ab.exp] 50) 76 (fun _ => by kernel_rfl) (fun f5 ja ie f6 an => ?_)))))
      have au := af.trans f6 (by simp)
      obtain ⟨jb, jc, f7, f8, aN, f9, hh, hi⟩ := app_run Tryz.prog an 7 (v := .slice A5 n5 c5) rfl 29 29 50 4 32 n5 1 1 (some ⟨f5, 0, none⟩) rfl (own_fr hold au (by simp)) [U4 ab.vip, I6 ab.first, U4 ab.dip, I6 ab.exp] rfl (srcOk.blk 1 (an.get 3 rfl)) rfl (by simp only [maxLen]; omega) (by omega)
      have dA := own_snoc (enc := encL) (ys := ((((V.leases.filter (pruneP V.now)).filter (ofP dip V.now)).take k).filter (oldP (outV V.snats dip) V.now))) ab f8
      obtain ⟨eg, eh, rfl, hV⟩ := own_form dA
      refine WLS 77 f7 ?_
      have ga := own_fr (own_fr S_m387 au (by simp)) aN (an.disj 0 7 rfl rfl (by decide))
      have gb := own_fr (own_fr N_m387 au (by simp)) aN (an.disj 1 7 rfl rfl (by decide))
      have gc := own_fr (own_fr K_m387 au (by simp)) aN (an.disj 2 7 rfl rfl (by decide))
      have gd := own_fr (own_fr L_m387 au (by simp)) aN (an.disj 3 7 rfl rfl (by decide))
      have gf := svcsIn.fr (svcsIn.fr in_m387 au (by simp)) aN (an.disj 4 7 rfl rfl (by decide))
      have gg := own_fr (own_fr row350_m387 au (by simp)) aN (an.disj 5 7 rfl rfl (by decide))
      have gh := own_fr (own_fr row382_m387 au (by simp)) aN (an.disj 6 7 rfl rfl (by decide))
      refine WLq 1 [(7, .slice eg (n5 + 1) eh)] (WLd rfl (QXb (QXn (cs _ _ (WCg (WLq 1 [(78, I6 (IntKind.i64.wrap ((k : Int) + 1)))] (WLt (show (I6 (IntKind.i64.wrap ((k : Int) + 1)) : Value) = I6 ((k : Int) + 1) from by rw [wrap_in_i64 ((k : Int) + 1) (by omega) (by omega)]) ?_)))))))
      refine WLq 1 [(55, I6 ((k : Int) + 1))] (WLd rfl (QXn ?_))
      have gi := f9.pick [0, 1] [0, 1, 2, 3, 4, 5, 6, 7] rfl rfl
      refine fun a_ ha_ => cr _ _ _ ?_ ⟨k + 1, eg, n5 + 1, eh, rfl, rfl, gi, ga, gb, gc, gd, gf, gg, gh, by rw [filt_snoc (oldP (outV V.snats dip) V.now) a5, if_pos (by simp [oldP, ax, aC, cR, a4, cT, a6, ef, bs])]; exact dA, by omega⟩ a_ (ha_.weaken (sub_of ⟨rfl, rfl, rfl, rfl, rfl, rfl, rfl, rfl, rfl, trivial⟩))
      omega
     ·
      have ef : (32 : Int) ≤ (ab.exp - V.now) := by have q_ := of_decide_eq_false bs; omega
      refine WCf rfl (WC.skip (QXb (QXn (cs _ _ (WCg (WLq 1 [(78, I6 (IntKind.i64.wrap ((k : Int) + 1)))] (WLt (show (I6 (IntKind.i64.wrap ((k : Int) + 1)) : Value) = I6 ((k : Int) + 1) from by rw [wrap_in_i64 ((k : Int) + 1) (by omega) (by omega)]) (WLq 1 [(55, I6 ((k : Int) + 1))] ?_))))))))
      refine WLd rfl (QXn ?_)
      have gj := aM.pick [0, 1] [0, 1, 2, 3, 4, 5, 6, 7] rfl rfl
      refine fun a_ ha_ => cr _ _ _ ?_ ⟨k + 1, A5, n5, c5, rfl, rfl, gj, (own_fr S_m387 af (by simp)), (own_fr N_m387 af (by simp)), (own_fr K_m387 af (by simp)), (own_fr L_m387 af (by simp)), (svcsIn.fr in_m387 af (by simp)), (own_fr row350_m387 af (by simp)), (own_fr row382_m387 af (by simp)), by rw [filt_snoc (oldP (outV V.snats dip) V.now) a5, if_neg (by simp [oldP, ax, aC, cR, a4, cT, a6, ef, bs] <;> omega), List.append_nil]; exact (own_fr hold af (by simp)), by omega⟩ a_ (ha_.weaken (sub_of ⟨rfl, rfl, rfl, rfl, rfl, rfl, rfl, rfl, rfl, trivial⟩))
      omega
    ·
     have cT : ¬ (ab.vip = (outV V.snats dip)) := by simpa using a6
     refine WDx 10 [(5, 64, undef), (6, 65, undef), (7, 66, undef), (8, 67, undef), (9, 68, undef), (10, 69, undef), (11, 70, undef), (12, 71, undef), (13, 72, undef), (14, 73, .bool false)] ad (WDd (QXn (dz _ _ (WCf rfl (WC.skip (QXb (QXn (cs _ _ ?_))))))))
     refine WCg (WLq 1 [(78, I6 (IntKind.i64.wrap ((k : Int) + 1)))] (WLt (show (I6 (IntKind.i64.wrap ((k : Int) + 1)) : Value) = I6 ((k : Int) + 1) from by rw [wrap_in_i64 ((k : Int) + 1) (by omega) (by omega)]) (WLq 1 [(55, I6 ((k : Int) + 1))] (WLd rfl (QXn ?_)))))
     have gk := aM.pick [0, 1] [0, 1, 2, 3, 4, 5, 6, 7] rfl rfl
     refine fun a_ ha_ => cr _ _ _ ?_ ⟨k + 1, A5, n5, c5, rfl, rfl, gk, (own_fr S_m387 af (by simp)), (own_fr N_m387 af (by simp)), (own_fr K_m387 af (by simp)), (own_fr L_m387 af (by simp)), (svcsIn.fr in_m387 af (by simp)), (own_fr row350_m387 af (by simp)), (own_fr row382_m387 af (by simp)), by rw [filt_snoc (oldP (outV V.snats dip) V.now) a5, if_neg (by simp [oldP, ax, aC, cR, a4, cT, a6] <;> omega), List.append_nil]; exact (own_fr hold af (by simp)), by omega⟩ a_ (ha_.weaken (sub_of ⟨rfl, rfl, rfl, rfl, rfl, rfl, rfl, rfl, rfl, trivial⟩))
     omega
   ·
    have cR : (((V.leases.filter (pruneP V.now)).filter (ofP dip V.now)).length : Int) ≤ (k : Int) := by have q_ := of_decide_eq_false a4; omega
    refine WCf rfl ?_
    have hke_ : k = ((V.leases.filter (pruneP V.now)).filter (ofP dip V.now)).length := by omega
    have aB := hold
    rw [List.take_of_length_le (by omega)] at aB hon_ honb_
    have hfo_ : ((V.leases.filter (pruneP V.now)).filter (ofP dip V.now)).filter (oldP (outV V.snats dip) V.now) = (oldL V (outV V.snats dip) dip) := rfl
    rw [hfo_] at aB hon_ honb_
    skip
    refine WC.exit (QXe (QXe (QX.block_hit (QXn (bn _ _ (WCs (fun jd bt => ?_)))))))
    refine WCg (WLq 1 [(10, .slice none 0 0)] (WLd rfl (QXn (bt _ _ (WCs (fun je bu => WCg (WLb dx (.cells #[U4 0, I6 0, U4 0, I6 0] 50) 11 (fun bv hW dB bN dC => WLd rfl (QXn (bu _ _ (WCs (fun jf bw => ?_))))))))))))
    refine WCg (WLq 1 [(12, .nilIface)] (WLd rfl (QXn (bw _ _ (WCs (fun jg a7 => WCs (fun jh bx => WCg (WLz 3 [(81, .bool (decide ((n5 : Int) > 0)))] (WLd rfl (QXn (bx _ _ (WCa 81 (decide ((n5 : Int) > 0)) rfl (fun ct => ?_) (fun ct => ?_)))))))))))))
    ·
     have hX : (0 : Int) < (n5 : Int) := by have q_ := of_decide_eq_true ct; omega
     refine WCt rfl (WCs (fun ji cu => WCg (WLq 1 [(82, .slice A5 n5 c5)] ?_)))
     have hmn_ := own_count encL_len (by decide) (own_fr aB bN (by simp))
     refine WLk (Min_n A5 n5 c5 (oldL V (outV V.snats dip) dip) hW (own_rd (own_fr aB bN (by simp)) encL_len (by decide)) hmn_ (by omega) (by omega)) ?_
     rintro _ jj ⟨rfl, dD⟩
     refine ⟨_, rfl, ?_⟩
     have gl := dC.call dD
     have dE := bN.trans dD (by simp)
     refine WLb gl (.cells #[U4 0, I6 0, U4 0, I6 0] 50) 13 (fun ei jk gm gn go => ?_)
     have gp := dE.trans gn (by simp)
     refine WLv (c' := #[U4 ((minL (oldL V (outV V.snats dip) dip)).vip), I6 ((minL (oldL V (outV V.snats dip) dip)).first), U4 ((minL (oldL V (outV V.snats dip) dip)).dip), I6 ((minL (oldL V (outV V.snats dip) dip)).exp)]) go 3 50 ei 0 (.agg #[U4 ((minL (oldL V (outV V.snats dip) dip)).vip), I6 ((minL (oldL V (outV V.snats dip) dip)).first), U4 ((minL (oldL V (outV V.snats dip) dip)).dip), I6 ((minL (oldL V (outV V.snats dip) dip)).exp)]) (fun jl gq gr => ?_)
     have gs := gp.trans gq (fun x_ h_ => .inr (by rw [List.mem_singleton] at h_; subst h_; exact (Nat.le_trans dE.size gm)))
     refine WLd rfl (QXn (cu _ _ (WC.drawC gr [bv] (by kernel_rfl) (fun hY gu a8 ah => ?_))))
     have dF := gs.trans gu (by simp)
     refine WDx 11 [(0, 85, P0 p 0), (1, 86, P0 p 0), (2, 87, P0 p 0), (3, 88, P0 p 5), (5, 90, U4 (outV V.snats dip)), (6, 91, P0 ei 1), (8, 93, U4 dip), (9, 94, P0 p 0), (10, 95, P0 p 0), (11, 96, P0 p 0), (12, 97, P0 p 1)] ah (WDm 4 29 (P0 p 5) (.slice ay ((V.leases.filter (pruneP V.now)).length) az) 89 (fun _ hS_ => run_ld (Fr.has hS_ (a8.get 0 rfl) (by simpa using a8.ne 0 2 rfl rfl (by decide))) rfl) ah (WDm 7 3 (P0 ei 1) (I6 ((minL (oldL V (outV V.snats dip) dip)).first)) 92 (fun _ hS_ => run_ld (Fr.has hS_ (a8.get 3 rfl) (by simpa using a8.ne 3 2 rfl rfl (by decide))) rfl) ah (WD.sem 13 (Instr.loadAt 3 (P0 p 1)) 98 (I6 V.now) (by kernel_rfl) (by kernel_rfl) (run_ld (a8.get 0 rfl) rfl) ah (WDc 14 (Renew_ct ay az (V.leases.filter (pruneP V.now)) (outV V.snats dip) ((minL (oldL V (outV V.snats dip) dip)).first) dip V.now hY (own_rd (own_fr row350_m387 dF (by simp)) encL_len (by decide)) (fun l_ h_ => hw.lok l_ (List.mem_filter.1 h_).1) (by omega)) ?_))))
     rintro _ jm ⟨v_, rfl, cv, bO⟩
     have dG := a8.callN cv (own_ge bO) (own_lt bO)
     obtain ⟨b1, b2, rfl, hZ⟩ := own_form bO
     have gv := own_base (b' := 0) bO (fun _ _ => Nat.zero_le _)
     have av := ah.trans cv (by simp)
     refine ⟨_, rfl, av, ?_⟩
     have gw := dF.trans cv (by simp)
     refine WDx 5 [(15, 84, .tuple #[.slice b1 ((rnX (V.leases.filter (pruneP V.now)) (outV V.snats dip) ((minL (oldL V (outV V.snats dip) dip)).first) dip V.now).length) b2, .agg #[U4 ((rnL (V.leases.filter (pruneP V.now)) (outV V.snats dip) ((minL (oldL V (outV V.snats dip) dip)).first) dip V.now).vip), I6 ((rnL (V.leases.filter (pruneP V.now)) (outV V.snats dip) ((minL (oldL V (outV V.snats dip) dip)).first) dip V.now).first), U4 ((rnL (V.leases.filter (pruneP V.now)) (outV V.snats dip) ((minL (oldL V (outV V.snats dip) dip)).first) dip V.now).dip), I6 ((rnL (V.leases.filter (pruneP V.now)) (outV V.snats dip) ((minL (oldL V (outV V.snats dip) dip)).first) dip V.now).exp)], errV 118 (rnE (V.leases.filter (pruneP V.now)) (outV V.snats dip) ((minL (oldL V (outV V.snats dip) dip)).first) dip V.now)]), (16, 100, .slice b1 ((rnX (V.leases.filter (pruneP V.now)) (outV V.snats dip) ((minL (oldL V (outV V.snats dip) dip)).first) dip V.now).length) b2), (17, 101, .agg #[U4 ((rnL (V.leases.filter (pruneP V.now)) (outV V.snats dip) ((minL (oldL V (outV V.snats dip) dip)).first) dip V.now).vip), I6 ((rnL (V.leases.filter (pruneP V.now)) (outV V.snats dip) ((minL (oldL V (outV V.snats dip) dip)).first) dip V.now).first), U4 ((rnL (V.leases.filter (pruneP V.now)) (outV V.snats dip) ((minL (oldL V (outV V.snats dip) dip)).first) dip V.now).dip), I6 ((rnL (V.leases.filter (pruneP V.now)) (outV V.snats dip) ((minL (oldL V (outV V.snats dip) dip)).first) dip V.now).exp)]), (18, 102, errV 118 (rnE (V.leases.filter (pruneP V.now)) (outV V.snats dip) ((minL (oldL V (outV V.snats dip) dip)).first) dip V.now)), (19, 10, .slice b1 ((rnX (V.leases.filter (pruneP V.now)) (outV V.snats dip) ((minL (oldL V (outV V.snats dip) dip)).first) dip V.now).length) b2)] av ?_
     obtain ⟨h1, gx, cw, aO⟩ := sto_run (c' := #[U4 ((rnL (V.leases.filter (pruneP V.now)) (outV V.snats dip) ((minL (oldL V (outV V.snats dip) dip)).first) dip V.now).vip), I6 ((rnL (V.leases.filter (pruneP V.now)) (outV V.snats dip) ((minL (oldL V (outV V.snats dip) dip)).first) dip V.now).first), U4 ((rnL (V.leases.filter (pruneP V.now)) (outV V.snats dip) ((minL (oldL V (outV V.snats dip) dip)).first) dip V.now).dip), I6 ((rnL (V.leases.filter (pruneP V.now)) (outV V.snats dip) ((minL (oldL V (outV V.snats dip) dip)).first) dip V.now).exp)]) Tryz.prog dG 2 50 bv 0 (.agg #[U4 ((rnL (V.leases.filter (pruneP V.now)) (outV V.snats dip) ((minL (oldL V (outV V.snats dip) dip)).first) dip V.now).vip), I6 ((rnL (V.leases.filter (pruneP V.now)) (outV V.snats dip) ((minL (oldL V (outV V.snats dip) dip)).first) dip V.now).first), U4 ((rnL (V.leases.filter (pruneP V.now)) (outV V.snats dip) ((minL (oldL V (outV V.snats dip) dip)).first) dip V.now).dip), I6 ((rnL (V.leases.filter (pruneP V.now)) (outV V.snats dip) ((minL (oldL V (outV V.snats dip) dip)).first) dip V.now).exp)]) rfl (by kernel_rfl)
     have dH := av.trans cw (by first | (simp; done) | (simp [*]; done) | (have q_ := av.size; simp; omega))
     refine WDu 20 gx dH ?_
     have dI := gw.trans cw (fun x_ h_ => .inr (by rw [List.mem_singleton] at h_; subst h_; exact dB))
     have gy := own_fr gv cw (dG.apartM 8 2 rfl rfl)
     refine WDq 21 12 (errV 118 (rnE (V.leases.filter (pruneP V.now)) (outV V.snats dip) ((minL (oldL V (outV V.snats dip) dip)).first) dip V.now)) dH (WDd (QXn (a7 _ _ (WCs (fun jn cx => WCs (fun jo cy => WCg (WLq 1 [(120, errV 118 (rnE (V.leases.filter (pruneP V.now)) (outV V.snats dip) ((minL (oldL V (outV V.snats dip) dip)).first) dip V.now))] ?_)))))))
     have gz : ∀ w_, Sem.run Tryz.prog (do eqGuard .neq 97 (Operand.tmp 120) (Operand.const (.nilIface)) (errV 118 (rnE (V.leases.filter (pruneP V.now)) (outV V.snats dip) ((minL (oldL V (outV V.snats dip) dip)).first) dip V.now)) (.nilIface); binOp .neq 97 (errV 118 (rnE (V.leases.filter (pruneP V.now)) (outV V.snats dip) ((minL (oldL V (outV V.snats dip) dip)).first) dip V.now)) (.nilIface)) w_ = .ok (.bool (!(decide (rnE (V.leases.filter (pruneP V.now)) (outV V.snats dip) ((minL (oldL V (outV V.snats dip) dip)).first) dip V.now = 0)))) w_ := fun w_ => (err_neq _ (rnE (V.leases.filter (pruneP V.now)) (outV V.snats dip) ((minL (oldL V (outV V.snats dip) dip)).first) dip V.now) (decide (rnE (V.leases.filter (pruneP V.now)) (outV V.snats dip) ((minL (oldL V (outV V.snats dip) dip)).first) dip V.now = 0)) (by rfl) _)
     refine WL.sem (do eqGuard .neq 97 (Operand.tmp 120) (Operand.const (.nilIface)) (errV 118 (rnE (V.leases.filter (pruneP V.now)) (outV V.snats dip) ((minL (oldL V (outV V.snats dip) dip)).first) dip V.now)) (.nilIface); binOp .neq 97 (errV 118 (rnE (V.leases.filter (pruneP V.now)) (outV V.snats dip) ((minL (oldL V (outV V.snats dip) dip)).first) dip V.now)) (.nilIface)) 121 (.bool (!(decide (rnE (V.leases.filter (pruneP V.now)) (outV V.snats dip) ((minL (oldL V (outV V.snats dip) dip)).first) dip V.now = 0)))) (by kernel_rfl) (gz _) (WLd rfl (QXn (cy _ _ (WCa 121 (!(decide (rnE (V.leases.filter (pruneP V.now)) (outV V.snats dip) ((minL (oldL V (outV V.snats dip) dip)).first) dip V.now = 0))) rfl (fun aP => ?_) (fun aP => ?_)))))
     ·
      have h2 : (decide (rnE (V.leases.filter (pruneP V.now)) (outV V.snats dip) ((minL (oldL V (outV V.snats dip) dip)).first) dip V.now = 0)) = false := by first | (simpa only [Bool.not_eq_true', Bool.not_eq_false'] using aP) | simpa using aP
      refine WCt rfl (WCs (fun jp dJ => WCg (WLq 1 [(122, errV 118 (rnE (V.leases.filter (pruneP V.now)) (outV V.snats dip) ((minL (oldL V (outV V.snats dip) dip)).first) dip V.now))] (WLk (result_ct (rnE (V.leases.filter (pruneP V.now)) (outV V.snats dip) ((minL (oldL V (outV V.snats dip) dip)).first) dip V.now) h1) ?_))))
      rintro _ jq ⟨rfl, dK⟩
      refine ⟨_, rfl, ?_⟩
      have a9 := aO.call dK
      have gA := dI.trans dK (by simp)
      refine WLv (c' := #[I6 (rnE (V.leases.filter (pruneP V.now)) (outV V.snats dip) ((minL (oldL V (outV V.snats dip) dip)).first) dip V.now), U4 0, I6 0, U4 0, I6 0]) a9 1 52 g3 0 (.agg #[I6 (rnE (V.leases.filter (pruneP V.now)) (outV V.snats dip) ((minL (oldL V (outV V.snats dip) dip)).first) dip V.now), U4 0, I6 0, U4 0, I6 0]) (fun jr gB dL => ?_)
      have bz := (gA.mono (G := [g3]) (by simp)).trans gB (fun _ h_ => .inl h_)
      refine WLd rfl (QXn (dJ _ _ (WC.ret (QXr ?_))))
      refine (hret' _ _ (.agg #[I6 (rnE (V.leases.filter (pruneP V.now)) (outV V.snats dip) ((minL (oldL V (outV V.snats dip) dip)).first) dip V.now), U4 0, I6 0, U4 0, I6 0]) (fun a ha => ?_) ?_).1
      ·
       exact res_run ha ((ResR.cell rfl (run_ld (dL.get 1 rfl) rfl) ResR.nil)) rfl
      clear hN hret hret' dJ cy cx cu bx a7 bw bu bt br bq bo bn bm aW aV aU hK9 hK2
      have hE_ : lendE V (outV V.snats dip) dip = rnE (leaL V) (outV V.snats dip) (minL (oldL V (outV V.snats dip) dip)).first dip V.now := by unfold lendE; rw [if_neg (fun e_ => by rw [e_] at hon_; simp at hon_; omega)]
      have hL_ : lendL V (outV V.snats dip) dip = rnL (leaL V) (outV V.snats dip) (minL (oldL V (outV V.snats dip) dip)).first dip V.now := by unfold lendL; rw [if_neg (fun e_ => by rw [e_] at hon_; simp at hon_; omega)]
      have hX_ : lendX V (outV V.snats dip) dip = rnX (leaL V) (outV V.snats dip) (minL (oldL V (outV V.snats dip) dip)).first dip V.now := by unfold lendX; rw [if_neg (fun e_ => by rw [e_] at hon_; simp at hon_; omega)]
      have hz_ : ¬ rnE (leaL V) (outV V.snats dip) (minL (oldL V (outV V.snats dip) dip)).first dip V.now = 0 := (by have q_ := aP; simpa [leaL] using q_)
      have hR_ : leaseR V dip = ⟨rnE (leaL V) (outV V.snats dip) (minL (oldL V (outV V.snats dip) dip)).first dip V.now, noL⟩ := by unfold leaseR; rw [if_neg (by rw [ax]; decide)]; rw [hE_, if_neg hz_]
      have hV_ : leaseC V dip = { V with leases := leaL V } := by unfold leaseC; rw [if_neg (by rw [ax]; decide)]; rw [hE_, if_neg hz_]
      rw [hR_, hV_]
      have gC := Cx.pickM dL [0] [0, 1, 2, 4, 5] (by decide) rfl rfl
      have gD := Cx_sw5 gC
      obtain ⟨gE, ej, cU⟩ := cfg_close (V := { V with leases := leaL V }) (xs := xs) gD (own_fr S_m387 bz (a9.apartM 0 1 rfl rfl)) (own_fr N_m387 bz (a9.apartM 1 1 rfl rfl)) (own_fr K_m387 bz (a9.apartM 2 1 rfl rfl)) (own_fr row350_m387 bz (a9.apartM 5 1 rfl rfl)) (svcsIn.fr in_m387 bz (a9.apartM 4 1 rfl rfl)) hvals
      exact ⟨_, rfl, ej, gE, cU⟩
     ·
      have h2 : (decide (rnE (V.leases.filter (pruneP V.now)) (outV V.snats dip) ((minL (oldL V (outV V.snats dip) dip)).first) dip V.now = 0)) = true := by first | (simpa only [Bool.not_eq_true', Bool.not_eq_false'] using aP) | simpa using aP
      refine WCf rfl (WC.skip (QXn (cx _ _ (WCs (fun js dM => WCg (WLz 5 [(128, P0 p 5), (125, .slice b1 ((rnX (V.leases.filter (pruneP V.now)) (outV V.snats dip) ((minL (oldL V (outV V.snats dip) dip)).first) dip V.now).length) b2)] (WLv (c' := #[I6 V.epoch, I6 V.now, .slice AS xs.length cS, .slice AN V.snats.length cN, .slice AK V.sick.length cK, .slice b1 ((rnX (V.leases.filter (pruneP V.now)) (outV V.snats dip) ((minL (oldL V (outV V.snats dip) dip)).first) dip V.now).length) b2]) aO 0 29 p 5 (.slice b1 ((rnX (V.leases.filter (pruneP V.now)) (outV V.snats dip) ((minL (oldL V (outV V.snats dip) dip)).first) dip V.now).length) b2) (fun jt dN aQ => ?_))))))))
      have bP := (dI.mono (G := [p]) (by simp)).trans dN (fun _ h_ => .inl h_)
      have gF := own_fr gy dN (aO.apartM 8 0 rfl rfl)
      refine WLd rfl (QXn (dM _ _ (WCs (fun ju dO => WCg (WLo 50 (P0 bv 0) (.agg #[U4 ((rnL (V.leases.filter (pruneP V.now)) (outV V.snats dip) ((minL (oldL V (outV V.snats dip) dip)).first) dip V.now).vip), I6 ((rnL (V.leases.filter (pruneP V.now)) (outV V.snats dip) ((minL (oldL V (outV V.snats dip) dip)).first) dip V.now).first), U4 ((rnL (V.leases.filter (pruneP V.now)) (outV V.snats dip) ((minL (oldL V (outV V.snats dip) dip)).first) dip V.now).dip), I6 ((rnL (V.leases.filter (pruneP V.now)) (outV V.snats dip) ((minL (oldL V (outV V.snats dip) dip)).first) dip V.now).exp)]) 129 (run_ld (aQ.get 2 rfl) rfl) (WLq 1 [(130, .agg #[I6 0, U4 ((rnL (V.leases.filter (pruneP V.now)) (outV V.snats dip) ((minL (oldL V (outV V.snats dip) dip)).first) dip V.now).vip), I6 ((rnL (V.leases.filter (pruneP V.now)) (outV V.snats dip) ((minL (oldL V (outV V.snats dip) dip)).first) dip V.now).first), U4 ((rnL (V.leases.filter (pruneP V.now)) (outV V.snats dip) ((minL (oldL V (outV V.snats dip) dip)).first) dip V.now).dip), I6 ((rnL (V.leases.filter (pruneP V.now)) (outV V.snats dip) ((minL (oldL V (outV V.snats dip) dip)).first) dip V.now).exp)])] (WLv (c' := #[I6 0, U4 ((rnL (V.leases.filter (pruneP V.now)) (outV V.snats dip) ((minL (oldL V (outV V.snats dip) dip)).first) dip V.now).vip), I6 ((rnL (V.leases.filter (pruneP V.now)) (outV V.snats dip) ((minL (oldL V (outV V.snats dip) dip)).first) dip V.now).first), U4 ((rnL (V.leases.filter (pruneP V.now)) (outV V.snats dip) ((minL (oldL V (outV V.snats dip) dip)).first) dip V.now).dip), I6 ((rnL (V.leases.filter (pruneP V.now)) (outV V.snats dip) ((minL (oldL V (outV V.snats dip) dip)).first) dip V.now).exp)]) aQ 1 52 g3 0 (.agg #[I6 0, U4 ((rnL (V.leases.filter (pruneP V.now)) (outV V.snats dip) ((minL (oldL V (outV V.snats dip) dip)).first) dip V.now).vip), I6 ((rnL (V.leases.filter (pruneP V.now)) (outV V.snats dip) ((minL (oldL V (outV V.snats dip) dip)).first) dip V.now).first), U4 ((rnL (V.leases.filter (pruneP V.now)) (outV V.snats dip) ((minL (oldL V (outV V.snats dip) dip)).first) dip V.now).dip), I6 ((rnL (V.leases.filter (pruneP V.now)) (outV V.snats dip) ((minL (oldL V (outV V.snats dip) dip)).first) dip V.now).exp)]) (fun jv bA dP => ?_))))))))
      have gG := own_fr (own_fr S_m387 bP (aO.apartM 0 0 rfl rfl)) bA (aQ.apartM 0 1 rfl rfl)
      have gH := own_fr (own_fr N_m387 bP (aO.apartM 1 0 rfl rfl)) bA (aQ.apartM 1 1 rfl rfl)
      have gI := own_fr (own_fr K_m387 bP (aO.apartM 2 0 rfl rfl)) bA (aQ.apartM 2 1 rfl rfl)
      have gJ := svcsIn.fr (svcsIn.fr in_m387 bP (aO.apartM 4 0 rfl rfl)) bA (aQ.apartM 4 1 rfl rfl)
      have gK := own_fr gF bA (aQ.apartM 8 1 rfl rfl)
      refine WLd rfl (QXn (dO _ _ (WC.ret ?_)))
      refine (hret' _ _ (.agg #[I6 0, U4 ((rnL (V.leases.filter (pruneP V.now)) (outV V.snats dip) ((minL (oldL V (outV V.snats dip) dip)).first) dip V.now).vip), I6 ((rnL (V.leases.filter (pruneP V.now)) (outV V.snats dip) ((minL (oldL V (outV V.snats dip) dip)).first) dip V.now).first), U4 ((rnL (V.leases.filter (pruneP V.now)) (outV V.snats dip) ((minL (oldL V (outV V.snats dip) dip)).first) dip V.now).dip), I6 ((rnL (V.leases.filter (pruneP V.now)) (outV V.snats dip) ((minL (oldL V (outV V.snats dip) dip)).first) dip V.now).exp)]) (fun a ha => ?_) ?_).1
      ·
       exact res_run ha ((ResR.cell rfl (run_ld (dP.get 1 rfl) rfl) ResR.nil)) rfl
      clear hN hret hret' dO dM cy cx cu bx a7 bw bu bt br bq bo bn bm aW aV aU hK9 hK2
      have hE_ : lendE V (outV V.snats dip) dip = rnE (leaL V) (outV V.snats dip) (minL (oldL V (outV V.snats dip) dip)).first dip V.now := by unfold lendE; rw [if_neg (fun e_ => by rw [e_] at hon_; simp at hon_; omega)]
      have hL_ : lendL V (outV V.snats dip) dip = rnL (leaL V) (outV V.snats dip) (minL (oldL V (outV V.snats dip) dip)).first dip V.now := by unfold lendL; rw [if_neg (fun e_ => by rw [e_] at hon_; simp at hon_; omega)]
      have hX_ : lendX V (outV V.snats dip) dip = rnX (leaL V) (outV V.snats dip) (minL (oldL V (outV V.snats dip) dip)).first dip V.now := by unfold lendX; rw [if_neg (fun e_ => by rw [e_] at hon_; simp at hon_; omega)]
      have hz_ : rnE (leaL V) (outV V.snats dip) (minL (oldL V (outV V.snats dip) dip)).first dip V.now = 0 := (by have q_ := aP; simpa [leaL] using q_)
      have hR_ : leaseR V dip = ⟨0, rnL (leaL V) (outV V.snats dip) (minL (oldL V (outV V.snats dip) dip)).first dip V.now⟩ := by unfold leaseR; rw [if_neg (by rw [ax]; decide)]; rw [hE_, if_pos hz_, hL_, hz_]
      have hV_ : leaseC V dip = { V with leases := rnX (leaL V) (outV V.snats dip) (minL (oldL V (outV V.snats dip) dip)).first dip V.now } := by unfold leaseC; rw [if_neg (by rw [ax]; decide)]; rw [hE_, if_pos hz_, hX_]
      rw [hR_, hV_]
      have gL := Cx.pickM dP [0] [0, 1, 2, 4, 8] (by decide) rfl rfl
      have gM := Cx_sw5 gL
      obtain ⟨gN, ek, cV⟩ := cfg_close (V := { V with leases := rnX (leaL V) (outV V.snats dip) (minL (oldL V (outV V.snats dip) dip)).first dip V.now }) (xs := xs) gM gG gH gI gK gJ hvals
      exact ⟨_, rfl, ek, gN, cV⟩
    ·
     have hX : (n5 : Int) ≤ 0 := by have q_ := of_decide_eq_false ct; omega
     refine WCf rfl (WC.drawC dC [bv] (by kernel_rfl) (fun h3 gO bB ak => ?_))
     have dQ := bN.trans gO (by simp)
     refine WDx 10 [(0, 104, P0 p 0), (1, 105, P0 p 0), (2, 106, P0 p 0), (3, 107, P0 p 5), (5, 109, U4 (outV V.snats dip)), (6, 110, U4 dip), (7, 111, P0 p 0), (8, 112, P0 p 0), (9, 113, P0 p 0), (10, 114, P0 p 1)] ak (WDm 4 29 (P0 p 5) (.slice ay ((V.leases.filter (pruneP V.now)).length) az) 108 (fun _ hS_ => run_ld (Fr.has hS_ (bB.get 0 rfl) (by simpa using bB.ne 0 2 rfl rfl (by decide))) rfl) ak (WD.sem 11 (Instr.loadAt 3 (P0 p 1)) 115 (I6 V.now) (by kernel_rfl) (by kernel_rfl) (run_ld (bB.get 0 rfl) rfl) ak (WDc 12 (Grant_ct ay az (V.leases.filter (pruneP V.now)) (outV V.snats dip) dip V.now h3 (own_rd (own_fr row350_m387 dQ (by simp)) encL_len (by decide)) (fun l_ h_ => hw.lok l_ (List.mem_filter.1 h_).1) (by omega) hvip_ hd (hg.frN bB.fr (fun b_ off_ e_ => by cases e_; exact h0))) ?_)))
     rintro _ jw ⟨v_, rfl, cz, bQ⟩
     have dR := bB.callN cz (own_ge bQ) (own_lt bQ)
     obtain ⟨b3, b4, rfl, h4⟩ := own_form bQ
     have gP := own_base (b' := 0) bQ (fun _ _ => Nat.zero_le _)
     have aw := ak.trans cz (by simp)
     refine ⟨_, rfl, aw, ?_⟩
     have gQ := dQ.trans cz (by simp)
     refine WDx 5 [(13, 103, .tuple #[.slice b3 ((grX (V.leases.filter (pruneP V.now)) (outV V.snats dip) dip V.now).length) b4, .agg #[U4 ((grL (V.leases.filter (pruneP V.now)) (outV V.snats dip) dip V.now).vip), I6 ((grL (V.leases.filter (pruneP V.now)) (outV V.snats dip) dip V.now).first), U4 ((grL (V.leases.filter (pruneP V.now)) (outV V.snats dip) dip V.now).dip), I6 ((grL (V.leases.filter (pruneP V.now)) (outV V.snats dip) dip V.now).exp)], errV 118 (grE (V.leases.filter (pruneP V.now)) (outV V.snats dip) dip V.now)]), (14, 117, .slice b3 ((grX (V.leases.filter (pruneP V.now)) (outV V.snats dip) dip V.now).length) b4), (15, 118, .agg #[U4 ((grL (V.leases.filter (pruneP V.now)) (outV V.snats dip) dip V.now).vip), I6 ((grL (V.leases.filter (pruneP V.now)) (outV V.snats dip) dip V.now).first), U4 ((grL (V.leases.filter (pruneP V.now)) (outV V.snats dip) dip V.now).dip), I6 ((grL (V.leases.filter (pruneP V.now)) (outV V.snats dip) dip V.now).exp)]), (16, 119, errV 118 (grE (V.leases.filter (pruneP V.now)) (outV V.snats dip) dip V.now)), (17, 10, .slice b3 ((grX (V.leases.filter (pruneP V.now)) (outV V.snats dip) dip V.now).length) b4)] aw ?_
     obtain ⟨h5, gR, cA, aR⟩ := sto_run (c' := #[U4 ((grL (V.leases.filter (pruneP V.now)) (outV V.snats dip) dip V.now).vip), I6 ((grL (V.leases.filter (pruneP V.now)) (outV V.snats dip) dip V.now).first), U4 ((grL (V.leases.filter (pruneP V.now)) (outV V.snats dip) dip V.now).dip), I6 ((grL (V.leases.filter (pruneP V.now)) (outV V.snats dip) dip V.now).exp)]) Tryz.prog dR 2 50 bv 0 (.agg #[U4 ((grL (V.leases.filter (pruneP V.now)) (outV V.snats dip) dip V.now).vip), I6 ((grL (V.leases.filter (pruneP V.now)) (outV V.snats dip) dip V.now).first), U4 ((grL (V.leases.filter (pruneP V.now)) (outV V.snats dip) dip V.now).dip), I6 ((grL (V.leases.filter (pruneP V.now)) (outV V.snats dip) dip V.now).exp)]) rfl (by kernel_rfl)
     have dS := aw.trans cA (by first | (simp; done) | (simp [*]; done) | (have q_ := aw.size; simp; omega))
     refine WDu 18 gR dS ?_
     have dT := gQ.trans cA (fun x_ h_ => .inr (by rw [List.mem_singleton] at h_; subst h_; exact dB))
     have gS := own_fr gP cA (dR.apartM 8 2 rfl rfl)
     refine WDq 19 12 (errV 118 (grE (V.leases.filter (pruneP V.now)) (outV V.snats dip) dip V.now)) dS (WDd (QXn (a7 _ _ (WCs (fun jx cB => WCs (fun jy cC => WCg (WLq 1 [(120, errV 118 (grE (V.leases.filter (pruneP V.now)) (outV V.snats dip) dip V.now))] ?_)))))))
     have gT : ∀ w_, Sem.run Tryz.prog (do eqGuard .neq 97 (Operand.tmp 120) (Operand.const (.nilIface)) (errV 118 (grE (V.leases.filter (pruneP V.now)) (outV V.snats dip) dip V.now)) (.nilIface); binOp .neq 97 (errV 118 (grE (V.leases.filter (pruneP V.now)) (outV V.snats dip) dip V.now)) (.nilIface)) w_ = .ok (.bool (!(decide (grE (V.leases.filter (pruneP V.now)) (outV V.snats dip) dip V.now = 0)))) w_ := fun w_ => (err_neq _ (grE (V.leases.filter (pruneP V.now)) (outV V.snats dip) dip V.now) (decide (grE (V.leases.filter (pruneP V.now)) (outV V.snats dip) dip V.now = 0)) (by rfl) _)
     refine WL.sem (do eqGuard .neq 97 (Operand.tmp 120) (Operand.const (.nilIface)) (errV 118 (grE (V.leases.filter (pruneP V.now)) (outV V.snats dip) dip V.now)) (.nilIface); binOp .neq 97 (errV 118 (grE (V.leases.filter (pruneP V.now)) (outV V.snats dip) dip V.now)) (.nilIface)) 121 (.bool (!(decide (grE (V.leases.filter (pruneP V.now)) (outV V.snats dip) dip V.now = 0)))) (by kernel_rfl) (gT _) (WLd rfl (QXn (cC _ _ (WCa 121 (!(decide (grE (V.leases.filter (pruneP V.now)) (outV V.snats dip) dip V.now = 0))) rfl (fun aS => ?_) (fun aS => ?_)))))
     ·
      have h6 : (decide (grE (V.leases.filter (pruneP V.now)) (outV V.snats dip) dip V.now = 0)) = false := by first | (simpa only [Bool.not_eq_true', Bool.not_eq_false'] using aS) | simpa using aS
      refine WCt rfl (WCs (fun jz dU => WCg (WLq 1 [(122, errV 118 (grE (V.leases.filter (pruneP V.now)) (outV V.snats dip) dip V.now))] (WLk (result_ct (grE (V.leases.filter (pruneP V.now)) (outV V.snats dip) dip V.now) h5) ?_))))
      rintro _ jA ⟨rfl, dV⟩
      refine ⟨_, rfl, ?_⟩
      have ba := aR.call dV
      have gU := dT.trans dV (by simp)
      refine WLv (c' := #[I6 (grE (V.leases.filter (pruneP V.now)) (outV V.snats dip) dip V.now), U4 0, I6 0, U4 0, I6 0]) ba 1 52 g3 0 (.agg #[I6 (grE (V.leases.filter (pruneP V.now)) (outV V.snats dip) dip V.now), U4 0, I6 0, U4 0, I6 0]) (fun jB gV dW => ?_)
      have bC := (gU.mono (G := [g3]) (by simp)).trans gV (fun _ h_ => .inl h_)
      refine WLd rfl (QXn (dU _ _ (WC.ret (QXr ?_))))
      refine (hret' _ _ (.agg #[I6 (grE (V.leases.filter (pruneP V.now)) (outV V.snats dip) dip V.now), U4 0, I6 0, U4 0, I6 0]) (fun a ha => ?_) ?_).1
      ·
       exact res_run ha ((ResR.cell rfl (run_ld (dW.get 1 rfl) rfl) ResR.nil)) rfl
      clear hN hret hret' dU cC cB bx a7 bw bu bt br bq bo bn bm aW aV aU hK9 hK2
      have hE_ : lendE V (outV V.snats dip) dip = grE (leaL V) (outV V.snats dip) dip V.now := by unfold lendE; rw [if_pos (List.eq_nil_of_length_eq_zero (by omega))]
      have hL_ : lendL V (outV V.snats dip) dip = grL (leaL V) (outV V.snats dip) dip V.now := by unfold lendL; rw [if_pos (List.eq_nil_of_length_eq_zero (by omega))]
      have hX_ : lendX V (outV V.snats dip) dip = grX (leaL V) (outV V.snats dip) dip V.now := by unfold lendX; rw [if_pos (List.eq_nil_of_length_eq_zero (by omega))]
      have hz_ : ¬ grE (leaL V) (outV V.snats dip) dip V.now = 0 := (by have q_ := aS; simpa [leaL] using q_)
      have hR_ : leaseR V dip = ⟨grE (leaL V) (outV V.snats dip) dip V.now, noL⟩ := by unfold leaseR; rw [if_neg (by rw [ax]; decide)]; rw [hE_, if_neg hz_]
      have hV_ : leaseC V dip = { V with leases := leaL V } := by unfold leaseC; rw [if_neg (by rw [ax]; decide)]; rw [hE_, if_neg hz_]
      rw [hR_, hV_]
      have gW := Cx.pickM dW [0] [0, 1, 2, 4, 5] (by decide) rfl rfl
      have gX := Cx_sw5 gW
      obtain ⟨gY, em, cW⟩ := cfg_close (V := { V with leases := leaL V }) (xs := xs) gX (own_fr S_m387 bC (ba.apartM 0 1 rfl rfl)) (own_fr N_m387 bC (ba.apartM 1 1 rfl rfl)) (own_fr K_m387 bC (ba.apartM 2 1 rfl rfl)) (own_fr row350_m387 bC (ba.apartM 5 1 rfl rfl)) (svcsIn.fr in_m387 bC (ba.apartM 4 1 rfl rfl)) hvals
      exact ⟨_, rfl, em, gY, cW⟩
     ·
      have h6 : (decide (grE (V.leases.filter (pruneP V.now)) (outV V.snats dip) dip V.now = 0)) = true := by first | (simpa only [Bool.not_eq_true', Bool.not_eq_false'] using aS) | simpa using aS
      refine WCf rfl (WC.skip (QXn (cB _ _ (WCs (fun jC dX => WCg (WLz 5 [(128, P0 p 5), (125, .slice b3 ((grX (V.leases.filter (pruneP V.now)) (outV V.snats dip) dip V.now).length) b4)] (WLv (c' := #[I6 V.epoch, I6 V.now, .slice AS xs.length cS, .slice AN V.snats.length cN, .slice AK V.sick.length cK, .slice b3 ((grX (V.leases.filter (pruneP V.now)) (outV V.snats dip) dip V.now).length) b4]) aR 0 29 p 5 (.slice b3 ((grX (V.leases.filter (pruneP V.now)) (outV V.snats dip) dip V.now).length) b4) (fun jD dY aT => ?_))))))))
      have bR := (dT.mono (G := [p]) (by simp)).trans dY (fun _ h_ => .inl h_)
      have gZ := own_fr gS dY (aR.apartM 8 0 rfl rfl)
      refine WLd rfl (QXn (dX _ _ (WCs (fun jE dZ => WCg (WLo 50 (P0 bv 0) (.agg #[U4 ((grL (V.leases.filter (pruneP V.now)) (outV V.snats dip) dip V.now).vip), I6 ((grL (V.leases.filter (pruneP V.now)) (outV V.snats dip) dip V.now).first), U4 ((grL (V.leases.filter (pruneP V.now)) (outV V.snats dip) dip V.now).dip), I6 ((grL (V.leases.filter (pruneP V.now)) (outV V.snats dip) dip V.now).exp)]) 129 (run_ld (aT.get 2 rfl) rfl) (WLq 1 [(130, .agg #[I6 0, U4 ((grL (V.leases.filter (pruneP V.now)) (outV V.snats dip) dip V.now).vip), I6 ((grL (V.leases.filter (pruneP V.now)) (outV V.snats dip) dip V.now).first), U4 ((grL (V.leases.filter (pruneP V.now)) (outV V.snats dip) dip V.now).dip), I6 ((grL (V.leases.filter (pruneP V.now)) (outV V.snats dip) dip V.now).exp)])] (WLv (c' := #[I6 0, U4 ((grL (V.leases.filter (pruneP V.now)) (outV V.snats dip) dip V.now).vip), I6 ((grL (V.leases.filter (pruneP V.now)) (outV V.snats dip) dip V.now).first), U4 ((grL (V.leases.filter (pruneP V.now)) (outV V.snats dip) dip V.now).dip), I6 ((grL (V.leases.filter (pruneP V.now)) (outV V.snats dip) dip V.now).exp)]) aT 1 52 g3 0 (.agg #[I6 0, U4 ((grL (V.leases.filter (pruneP V.now)) (outV V.snats dip) dip V.now).vip), I6 ((grL (V.leases.filter (pruneP V.now)) (outV V.snats dip) dip V.now).first), U4 ((grL (V.leases.filter (pruneP V.now)) (outV V.snats dip) dip V.now).dip), I6 ((grL (V.leases.filter (pruneP V.now)) (outV V.snats dip) dip V.now).exp)]) (fun jF bD d0 => ?_))))))))
      have g0 := own_fr (own_fr S_m387 bR (aR.apartM 0 0 rfl rfl)) bD (aT.apartM 0 1 rfl rfl)
      have g1 := own_fr (own_fr N_m387 bR (aR.apartM 1 0 rfl rfl)) bD (aT.apartM 1 1 rfl rfl)
      have g2 := own_fr (own_fr K_m387 bR (aR.apartM 2 0 rfl rfl)) bD (aT.apartM 2 1 rfl rfl)
      have g4 := svcsIn.fr (svcsIn.fr in_m387 bR (aR.apartM 4 0 rfl rfl)) bD (aT.apartM 4 1 rfl rfl)
      have g5 := own_fr gZ bD (aT.apartM 8 1 rfl rfl)
      refine WLd rfl (QXn (dZ _ _ (WC.ret ?_)))
      refine (hret' _ _ (.agg #[I6 0, U4 ((grL (V.leases.filter (pruneP V.now)) (outV V.snats dip) dip V.now).vip), I6 ((grL (V.leases.filter (pruneP V.now)) (outV V.snats dip) dip V.now).first), U4 ((grL (V.leases.filter (pruneP V.now)) (outV V.snats dip) dip V.now).dip), I6 ((grL (V.leases.filter (pruneP V.now)) (outV V.snats dip) dip V.now).exp)]) (fun a ha => ?_) ?_).1
      ·
       exact res_run ha ((ResR.cell rfl (run_ld (d0.get 1 rfl) rfl) ResR.nil)) rfl
      clear hN hret hret' dZ dX cC cB bx a7 bw bu bt br bq bo bn bm aW aV aU hK9 hK2
      have hE_ : lendE V (outV V.snats dip) dip = grE (leaL V) (outV V.snats dip) dip V.now := by unfold lendE; rw [if_pos (List.eq_nil_of_length_eq_zero (by omega))]
      have hL_ : lendL V (outV V.snats dip) dip = grL (leaL V) (outV V.snats dip) dip V.now := by unfold lendL; rw [if_pos (List.eq_nil_of_length_eq_zero (by omega))]
      have hX_ : lendX V (outV V.snats dip) dip = grX (leaL V) (outV V.snats dip) dip V.now := by unfold lendX; rw [if_pos (List.eq_nil_of_length_eq_zero (by omega))]
      have hz_ : grE (leaL V) (outV V.snats dip) dip V.now = 0 := (by have q_ := aS; simpa [leaL] using q_)
      have hR_ : leaseR V dip = ⟨0, grL (leaL V) (outV V.snats dip) dip V.now⟩ := by unfold leaseR; rw [if_neg (by rw [ax]; decide)]; rw [hE_, if_pos hz_, hL_, hz_]
      have hV_ : leaseC V dip = { V with leases := grX (leaL V) (outV V.snats dip) dip V.now } := by unfold leaseC; rw [if_neg (by rw [ax]; decide)]; rw [hE_, if_pos hz_, hX_]
      rw [hR_, hV_]
      have g6 := Cx.pickM d0 [0] [0, 1, 2, 4, 8] (by decide) rfl rfl
      have g7 := Cx_sw5 g6
      obtain ⟨g8, en, cX⟩ := cfg_close (V := { V with leases := grX (leaL V) (outV V.snats dip) dip V.now }) (xs := xs) g7 g0 g1 g2 g5 g4 hvals
      exact ⟨_, rfl, en, g8, cX⟩

end Go.Proofs.YtfligklljkcbfaaGreatDoor
