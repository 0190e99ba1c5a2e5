/- Contracts of functions of the program, each proved by a walk through its code; conditions stand in the statements. -/
import Derived.Test.YtfligklljkcbfaaDoorStN16
import Derived.Test.YtfligklljkcbfaaDoorTwAl
namespace Go.Proofs.YtfligklljkcbfaaDoor
set_option linter.unusedSimpArgs false
set_option linter.unusedVariables false
set_option linter.unusedSectionVars false
open Go Go.RowKit Go.Tw
set_option linter.unusedVariables false
set_option maxRecDepth 20000
theorem outV_u32 {ns : List SnatV} (h : ∀ x ∈ ns, isU32 x.dip ∧ isU32 x.vip) (dip : Int) : isU32 (outV ns dip) := by
  unfold outV
  cases hf : outF ns dip with
  | none => exact ⟨by decide, by decide⟩
  | some x => exact (h x (List.mem_of_find?_eq_some hf)).2
theorem in_leaL {V : CfgV} {l : Lease} (h : l ∈ leaL V) : l ∈ V.leases ∧ V.now ≤ l.exp := by
  obtain ⟨h1, h2⟩ := List.mem_filter.1 h
  exact ⟨h1, by simpa [pruneP, livesB] using h2⟩
theorem zero_notin {F F2 : List Nat} {w : World} (h0 : 0 ∉ F) (hs : 0 < w.heap.size) (h : ∀ x ∈ F2, x ∈ F ∨ w.heap.size ≤ x) : 0 ∉ F2 := fun hx => (h 0 hx).elim h0 (fun q => by omega)
theorem rd_size {α : Type} {w : World} {sz : Nat} {enc : α → List Value} {b off : Nat} {xs : List α} (h : Rd w sz enc (some ⟨b, off, none⟩) xs) (hp : ∀ x, 0 < (enc x).length) (hne : 0 < xs.length) : b < w.heap.size :=
  rd_lt h hp rfl (List.length_pos_iff.1 hne)
theorem dbTab_size {w : World} (hg : Rd w 1 (encI .u8) (some ⟨0, 0, none⟩) dbTab) : 0 < w.heap.size := rd_size hg (fun _ => Nat.lt_succ_self _) (by simp only [dbTab, List.length]; omega)
set_option maxHeartbeats 2000000 in
theorem lease_ct (F : List Nat) (p : Nat) (V : CfgV) (n : Nat) (dip : Int) (w : World) (h : cfgAt w F p V) (hw : wfCfg V n) (hn : n ≤ 100000000000) (hd : isU32 dip) (h0 : 0 ∉ F) (hg : Rd w 1 (encI .u8) (some ⟨0, 0, none⟩) dbTab) : Calls Tryd.prog 49 #[.pointer (some ⟨p, 0, none⟩), .int .u32 dip] w fun e w' => ∃ F2, e = .returned (.agg #[.int .i64 ((leaseR V dip).err), .int .u32 ((leaseR V dip).lease.vip), .int .i64 ((leaseR V dip).lease.first), .int .u32 ((leaseR V dip).lease.dip), .int .i64 ((leaseR V dip).lease.exp)]) ∧ Fr w w' F ∧ cfgAt w' F2 p (leaseC V dip) ∧ ∀ x ∈ F2, x ∈ F ∨ w.heap.size ≤ x := by
 refine enterD (n := 131) Tryd.func49 rfl rfl (Nat.le_of_ble_eq_true rfl) ?_
 intro Q0 hN hret hret'
 have hvip_ := outV_u32 hw.nok dip
 have hlea_ := Nat.le_trans (List.length_filter_le (pruneP V.now) V.leases) hw.ln
 obtain ⟨AS, cS, xs, AN, cN, AK, cK, AL, cL, R, hC, hF_, hrS, hrN, hrK, hrL, hin, hvals⟩ := h
 have hssx_ : sortK kS xs := sortK_map (by rw [hvals]; exact hw.ssort)
 have hslx_ : V.svcs.length = xs.length := by rw [← hvals, List.length_map]
 have hws1_ := hw.sn
 have hws2_ := hw.nn
 have hws3_ := hw.kn
 have hws4_ := hw.ln
 have hws5_ := hw.ep0
 have hws6_ := hw.ep1
 have hws7_ := hw.now0
 have hws8_ := hw.now1
 refine WCs (fun K1 hK2 => ?_)
 refine WCg ?_
 refine WL.newM hC (fun b => .pointer (some ⟨b, 0, none⟩)) (.cells #[.int .i64 0, .int .u32 0, .int .i64 0, .int .u32 0, .int .i64 0] 47) 4 (fun _ => by kernel_rfl) (fun g3 w4 hb7 hF5 hC6 => ?_)
 have ho8 := own_fr hrS hF5 (by simp)
 have ho9 := own_fr hrN hF5 (by simp)
 have ho10 := own_fr hrK hF5 (by simp)
 have ho11 := own_fr hrL hF5 (by simp)
 have hf12 := svcsIn.fr hin hF5 (by simp)
 have hf13 := (Fr.refl w []).trans hF5 (by simp)
 refine WLd rfl (QXn (hK2 _ _ ?_))
 refine WCs (fun K14 hK15 => ?_)
 refine WCg (WLr 3 [(17, .pointer (some ⟨p, 0, none⟩)), (16, .pointer (some ⟨p, 0, none⟩)), (15, .pointer (some ⟨p, 0, none⟩))] (fun _ => by kernel_rfl) ?_)
 refine WL.load 31 (.pointer (some ⟨p, 0, none⟩)) (.agg #[.int .i64 V.epoch, .int .i64 V.now, .slice AS xs.length cS, .slice AN V.snats.length cN, .slice AK V.sick.length cK, .slice AL V.leases.length cL]) 18 (by kernel_rfl) (run_ld (hC6.get 0 rfl) rfl) ?_
 refine WLr 1 [(19, .int .u32 dip)] (fun _ => by kernel_rfl) ?_
 refine WLc rfl rfl rfl rfl rfl (by kernel_rfl) (Outside_n V.epoch V.now AS AK AL xs.length cS V.sick.length cK V.leases.length cL AN V.snats.length cN V.snats dip w4 (own_rd ho9 cellsN_len (by decide)) (own_count cellsN_len (by decide) ho9) (by first | omega | (simp; done))) ?_
 rintro _ w17 ⟨rfl, hF16⟩
 refine ⟨_, rfl, ?_⟩
 have hC18 := hC6.call hF16
 have ho19 := own_fr ho8 hF16 (by simp)
 have ho20 := own_fr ho9 hF16 (by simp)
 have ho21 := own_fr ho10 hF16 (by simp)
 have ho22 := own_fr ho11 hF16 (by simp)
 have hf23 := svcsIn.fr hf12 hF16 (by simp)
 have hf24 := hf13.trans hF16 (by simp)
 refine WLr 5 [(6, .bool (outB V.snats dip)), (5, .int .u32 (outV V.snats dip)), (22, .bool (outB V.snats dip)), (21, .int .u32 (outV V.snats dip)), (14, .tuple #[.int .u32 (outV V.snats dip), .bool (outB V.snats dip)])] (fun _ => by kernel_rfl) (WLd rfl (QXn (hK15 _ _ ?_)))
 refine WCs (fun K25 hK26 => ?_)
 refine WCs (fun K27 hK28 => ?_)
 refine WCg (WLr 2 [(24, .bool (!(outB V.snats dip))), (23, .bool (outB V.snats dip))] (fun _ => by kernel_rfl) (WLd rfl (QXn (hK28 _ _ ?_))))
 refine WCa 24 (!(outB V.snats dip)) rfl (fun t29b => ?_) (fun t29b => ?_)
 ·
  have t29 : (outB V.snats dip) = false := by first | (simpa only [Bool.not_eq_true', Bool.not_eq_false'] using t29b) | simpa using t29b
  refine WCt rfl ?_
  refine WCs (fun K30 hK31 => ?_)
  refine WCg (WLr 1 [(25, .iface 73 (.int .i64 6))] (fun _ => by kernel_rfl) ?_)
  refine WLc rfl rfl rfl rfl rfl (by kernel_rfl) (result_err 6 w17) ?_
  rintro _ w33 ⟨rfl, hF32⟩
  refine ⟨_, rfl, ?_⟩
  have hC34 := hC18.call hF32
  have ho35 := own_fr ho19 hF32 (by simp)
  have ho36 := own_fr ho20 hF32 (by simp)
  have ho37 := own_fr ho21 hF32 (by simp)
  have ho38 := own_fr ho22 hF32 (by simp)
  have hf39 := svcsIn.fr hf23 hF32 (by simp)
  have hf40 := hf24.trans hF32 (by simp)
  refine WLs (c' := #[.int .i64 6, .int .u32 0, .int .i64 0, .int .u32 0, .int .i64 0]) hC34 1 47 g3 0 (.agg #[.int .i64 6, .int .u32 0, .int .i64 0, .int .u32 0, .int .i64 0]) (by kernel_rfl) rfl (by kernel_rfl) (fun w41 hF43 hC44 => ?_)
  have ho45 := own_fr ho35 hF43 (hC34.apartM 0 1 rfl rfl)
  have ho46 := own_fr ho36 hF43 (hC34.apartM 1 1 rfl rfl)
  have ho47 := own_fr ho37 hF43 (hC34.apartM 2 1 rfl rfl)
  have ho48 := own_fr ho38 hF43 (hC34.apartM 3 1 rfl rfl)
  have hf49 := svcsIn.fr hf39 hF43 (hC34.apartM 4 1 rfl rfl)
  refine WLd rfl (QXn (hK31 _ _ ?_))
  refine WC.ret ?_
  refine QXr ?_
  refine (hret' _ _ (.agg #[.int .i64 6, .int .u32 0, .int .i64 0, .int .u32 0, .int .i64 0]) (fun a ha => ?_) ?_).1
  ·
   exact res_run ha ((ResR.cell rfl (run_ld (hC44.get 1 rfl) rfl) ResR.nil)) rfl
  clear hN hret hret' hK31 hK28 hK26 hK15 hK2
  have hC53 := Cx.pickM hC44 [0] [0, 1, 2, 3, 4] (by decide) rfl rfl
  obtain ⟨hT50, hfr51, hsub52⟩ := cfg_close (V := V) (xs := xs) hC53 ho45 ho46 ho47 ho48 hf49 hvals
  have hR_ : leaseR V dip = errR 6 := by unfold leaseR; rw [if_pos t29]
  have hV_ : leaseC V dip = V := by unfold leaseC; rw [if_pos t29]
  rw [hR_, hV_]
  exact ⟨_, rfl, hfr51, hT50, hsub52⟩
 ·
  have t29 : (outB V.snats dip) = true := by first | (simpa only [Bool.not_eq_true', Bool.not_eq_false'] using t29b) | simpa using t29b
  refine WCf rfl (WC.skip (QXn (hK26 _ _ ?_)))
  refine WCs (fun K54 hK55 => ?_)
  refine WC.drawC hC18 [p] (by kernel_rfl) (fun w56 hF57 hC58 hS59 => ?_)
  have ho60 := own_fr ho19 hF57 (by simp)
  have ho61 := own_fr ho20 hF57 (by simp)
  have ho62 := own_fr ho21 hF57 (by simp)
  have ho63 := own_fr ho22 hF57 (by simp)
  have hf64 := svcsIn.fr hf23 hF57 (by simp)
  have hf65 := hf24.trans hF57 (by simp)
  refine WDp (NPt hN) 0 27 (.pointer (some ⟨p, 0, none⟩)) (by kernel_rfl) (fun _ => by kernel_rfl) hS59 ?_
  refine WDp (NPt hN) 1 28 (.pointer (some ⟨p, 0, none⟩)) (by kernel_rfl) (fun _ => by kernel_rfl) hS59 ?_
  refine WDp (NPt hN) 2 29 (.pointer (some ⟨p, 0, none⟩)) (by kernel_rfl) (fun _ => by kernel_rfl) hS59 ?_
  refine WDp (NPt hN) 3 30 (.pointer (some ⟨p, 0, none⟩)) (by kernel_rfl) (fun _ => by kernel_rfl) hS59 ?_
  refine WDp (NPt hN) 4 31 (.pointer (some ⟨p, 5, none⟩)) (by kernel_rfl) (fun _ => by kernel_rfl) hS59 ?_
  refine WDp (NPt hN) 6 33 (.pointer (some ⟨p, 0, none⟩)) (by kernel_rfl) (fun _ => by kernel_rfl) hS59 ?_
  refine WDp (NPt hN) 7 34 (.pointer (some ⟨p, 0, none⟩)) (by kernel_rfl) (fun _ => by kernel_rfl) hS59 ?_
  refine WDp (NPt hN) 8 35 (.pointer (some ⟨p, 0, none⟩)) (by kernel_rfl) (fun _ => by kernel_rfl) hS59 ?_
  refine WDp (NPt hN) 9 36 (.pointer (some ⟨p, 1, none⟩)) (by kernel_rfl) (fun _ => by kernel_rfl) hS59 ?_
  refine WD.all2 5 10 (by kernel_rfl) ?_ ?_
  ·
   refine WO.sem 5 (Instr.loadAt 29 (.pointer (some ⟨p, 5, none⟩))) 32 (.slice AL V.leases.length cL) (by kernel_rfl) (by kernel_rfl) (run_ld (hC58.get 0 rfl) rfl) hS59 ?_
   refine WD.sem 10 (Instr.loadAt 3 (.pointer (some ⟨p, 1, none⟩))) 37 (.int .i64 V.now) (by kernel_rfl) (by kernel_rfl) (run_ld (hC58.get 0 rfl) rfl) hS59 ?_
   refine WD.call 11 (by kernel_rfl) rfl rfl rfl rfl rfl (by kernel_rfl) (Prune_ct AL cL V.leases V.now w56 (own_rd ho63 encL_len (by decide)) hw.lok (by first | omega | simp)) ?_
   rintro _ w68 ⟨v_, rfl, hF67, ho66⟩
   have hC69 := hC58.callN hF67 (own_ge ho66) (own_lt ho66)
   obtain ⟨A70, c71, rfl, hle72⟩ := own_form ho66
   have ho74 := own_base (b' := 0) ho66 (fun _ _ => Nat.zero_le _)
   have hS75 := hS59.trans hF67 (by simp)
   refine ⟨_, rfl, hS75, ?_⟩
   have ho76 := own_fr ho60 hF67 (by simp)
   have ho77 := own_fr ho61 hF67 (by simp)
   have ho78 := own_fr ho62 hF67 (by simp)
   have ho79 := own_fr ho63 hF67 (by simp)
   have hf80 := svcsIn.fr hf64 hF67 (by simp)
   have hf81 := hf65.trans hF67 (by simp)
   refine WDp (NPt hN) 12 39 (.pointer (some ⟨p, 0, none⟩)) (by kernel_rfl) (fun _ => by kernel_rfl) hS75 ?_
   refine WDp (NPt hN) 13 40 (.pointer (some ⟨p, 0, none⟩)) (by kernel_rfl) (fun _ => by kernel_rfl) hS75 ?_
   refine WDp (NPt hN) 14 41 (.pointer (some ⟨p, 5, none⟩)) (by kernel_rfl) (fun _ => by kernel_rfl) hS75 ?_
   obtain ⟨w83, hr84, hF85, hC86⟩ := sto_run (c' := #[.int .i64 V.epoch, .int .i64 V.now, .slice AS xs.length cS, .slice AN V.snats.length cN, .slice AK V.sick.length cK, .slice A70 ((V.leases.filter (pruneP V.now)).length) c71]) Tryd.prog hC69 0 29 p 5 (.slice A70 ((V.leases.filter (pruneP V.now)).length) c71) rfl (by kernel_rfl)
   have hS87 := hS75.trans hF85 (by first | (simp; done) | (simp [*]; done) | (have q_ := hS75.size; simp; omega))
   refine WD.semU 15 (Instr.storeAt 29 (.pointer (some ⟨p, 5, none⟩)) (.slice A70 ((V.leases.filter (pruneP V.now)).length) c71)) (by kernel_rfl) (by kernel_rfl) hr84 hS87 ?_
   have ho88 := own_fr ho76 hF85 (hC69.apartM 0 0 rfl rfl)
   have ho89 := own_fr ho77 hF85 (hC69.apartM 1 0 rfl rfl)
   have ho90 := own_fr ho78 hF85 (hC69.apartM 2 0 rfl rfl)
   have ho91 := own_fr ho79 hF85 (hC69.apartM 3 0 rfl rfl)
   have hf92 := svcsIn.fr hf80 hF85 (hC69.apartM 4 0 rfl rfl)
   have ho93 := own_fr ho74 hF85 (hC69.apartM 5 0 rfl rfl)
   refine WD.done (by kernel_rfl) ?_
   refine QXn (hK55 _ _ ?_)
   refine WCs (fun K94 hK95 => ?_)
   refine WCg (WLr 1 [(7, .slice none 0 0)] (fun _ => by kernel_rfl) (WLd rfl (QXn (hK95 _ _ ?_))))
   refine WCs (fun K96 hK97 => ?_)
   refine WCs (fun K98 hK99 => ?_)
   refine WC.drawC hC86 [] (by kernel_rfl) (fun w100 hF101 hC102 hS103 => ?_)
   have ho104 := own_fr ho88 hF101 (by simp)
   have ho105 := own_fr ho89 hF101 (by simp)
   have ho106 := own_fr ho90 hF101 (by simp)
   have ho107 := own_fr ho91 hF101 (by simp)
   have hf108 := svcsIn.fr hf92 hF101 (by simp)
   have ho109 := own_fr ho93 hF101 (by simp)
   refine WDp (NPt (NPt hN)) 0 42 (.pointer (some ⟨p, 0, none⟩)) (by kernel_rfl) (fun _ => by kernel_rfl) hS103 ?_
   refine WDp (NPt (NPt hN)) 1 43 (.pointer (some ⟨p, 0, none⟩)) (by kernel_rfl) (fun _ => by kernel_rfl) hS103 ?_
   refine WDp (NPt (NPt hN)) 2 44 (.pointer (some ⟨p, 0, none⟩)) (by kernel_rfl) (fun _ => by kernel_rfl) hS103 ?_
   refine WDp (NPt (NPt hN)) 3 45 (.pointer (some ⟨p, 5, none⟩)) (by kernel_rfl) (fun _ => by kernel_rfl) hS103 ?_
   refine WDp (NPt (NPt hN)) 5 47 (.int .u32 dip) (by kernel_rfl) (fun _ => by kernel_rfl) hS103 ?_
   refine WDp (NPt (NPt hN)) 6 48 (.pointer (some ⟨p, 0, none⟩)) (by kernel_rfl) (fun _ => by kernel_rfl) hS103 ?_
   refine WDp (NPt (NPt hN)) 7 49 (.pointer (some ⟨p, 0, none⟩)) (by kernel_rfl) (fun _ => by kernel_rfl) hS103 ?_
   refine WDp (NPt (NPt hN)) 8 50 (.pointer (some ⟨p, 0, none⟩)) (by kernel_rfl) (fun _ => by kernel_rfl) hS103 ?_
   refine WDp (NPt (NPt hN)) 9 51 (.pointer (some ⟨p, 1, none⟩)) (by kernel_rfl) (fun _ => by kernel_rfl) hS103 ?_
   refine WDp (NPt (NPt hN)) 13 55 (.int .i64 0) (by kernel_rfl) (fun _ => by kernel_rfl) hS103 ?_
   refine WDl (NPt (NPt hN)) 4 29 (.pointer (some ⟨p, 5, none⟩)) (.slice A70 ((V.leases.filter (pruneP V.now)).length) c71) 46 (by kernel_rfl) (by kernel_rfl) (fun _ hS_ => run_ld (Fr.has hS_ (hC102.get 0 rfl) (by simp)) rfl) hS103 ?_
   refine WDl (NPt (NPt hN)) 10 3 (.pointer (some ⟨p, 1, none⟩)) (.int .i64 V.now) 52 (by kernel_rfl) (by kernel_rfl) (fun _ hS_ => run_ld (Fr.has hS_ (hC102.get 0 rfl) (by simp)) rfl) hS103 ?_
   refine WD.call 11 (by kernel_rfl) rfl rfl rfl rfl rfl (by kernel_rfl) (Of_ct A70 c71 (V.leases.filter (pruneP V.now)) dip V.now w100 (own_rd ho109 encL_len (by decide)) (fun l_ h_ => hw.lok l_ (List.mem_filter.1 h_).1) (by first | omega | simp)) ?_
   rintro _ w112 ⟨v_, rfl, hF111, ho110⟩
   have hC113 := hC102.callN hF111 (own_ge ho110) (own_lt ho110)
   obtain ⟨A114, c115, rfl, hle116⟩ := own_form ho110
   have ho118 := own_base (b' := 0) ho110 (fun _ _ => Nat.zero_le _)
   have hS119 := hS103.trans hF111 (by simp)
   refine ⟨_, rfl, hS119, ?_⟩
   have ho120 := own_fr ho104 hF111 (by simp)
   have ho121 := own_fr ho105 hF111 (by simp)
   have ho122 := own_fr ho106 hF111 (by simp)
   have ho123 := own_fr ho107 hF111 (by simp)
   have hf124 := svcsIn.fr hf108 hF111 (by simp)
   have ho125 := own_fr ho109 hF111 (by simp)
   refine WDp (NPt (NPt hN)) 12 54 (.int .i64 (((V.leases.filter (pruneP V.now)).filter (ofP dip V.now)).length : Int)) (by kernel_rfl) (fun _ => by kernel_rfl) hS119 ?_
   refine WD.done (by kernel_rfl) ?_
   refine QXn (hK99 _ _ ?_)
   refine WC.block ?_
   have hC127 := hC113.addNil
   have hol_ := own_count encL_len (by decide) ho118
   have holb_ : ((V.leases.filter (pruneP V.now)).filter (ofP dip V.now)).length ≤ n := Nat.le_trans (List.length_filter_le _ _) (Nat.le_trans (List.length_filter_le _ _) hw.ln)
   refine WC.loop (fun m_ E_ w_ => ∃ (k : Nat) (A5 : Option Addr) (n5 c5 : Nat), m_ = ((V.leases.filter (pruneP V.now)).filter (ofP dip V.now)).length - k ∧ E_ = [(0, .pointer (some ⟨p, 0, none⟩)), (1, .int .u32 dip), (4, .pointer (some ⟨g3, 0, none⟩)), (5, .int .u32 (outV V.snats dip)), (6, .bool (outB V.snats dip)), (7, .slice A5 n5 c5), (53, .slice A114 (((V.leases.filter (pruneP V.now)).filter (ofP dip V.now)).length) c115), (54, .int .i64 (((V.leases.filter (pruneP V.now)).filter (ofP dip V.now)).length : Int)), (55, .int .i64 (k : Int))] ∧ Cx w F w_ [(p, .cells #[.int .i64 V.epoch, .int .i64 V.now, .slice AS xs.length cS, .slice AN V.snats.length cN, .slice AK V.sick.length cK, .slice A70 ((V.leases.filter (pruneP V.now)).length) c71] 69 (0, 0)), (g3, .cells #[.int .i64 0, .int .u32 0, .int .i64 0, .int .u32 0, .int .i64 0] 47)] [blk (.slice AS xs.length cS), blk (.slice AN V.snats.length cN), blk (.slice AK V.sick.length cK), blk (.slice AL V.leases.length cL), R, blk (.slice A70 ((V.leases.filter (pruneP V.now)).length) c71), blk (.slice A114 (((V.leases.filter (pruneP V.now)).filter (ofP dip V.now)).length) c115), blk (.slice A5 n5 c5)] ∧ World.ownsRow w_ 0 52 4 (.slice AS xs.length cS) xs.length (xs.flatMap cellsS) ∧ World.ownsRow w_ 0 54 2 (.slice AN V.snats.length cN) V.snats.length (V.snats.flatMap cellsN) ∧ World.ownsRow w_ 0 41 1 (.slice AK V.sick.length cK) V.sick.length (V.sick.flatMap (Go.Tw.encI .u32)) ∧ World.ownsRow w_ 0 43 4 (.slice AL V.leases.length cL) V.leases.length (V.leases.flatMap encL) ∧ svcsIn w_ R xs ∧ World.ownsRow w_ 0 43 4 (.slice A70 ((V.leases.filter (pruneP V.now)).length) c71) ((V.leases.filter (pruneP V.now)).length) ((V.leases.filter (pruneP V.now)).flatMap encL) ∧ World.ownsRow w_ 0 43 4 (.slice A114 (((V.leases.filter (pruneP V.now)).filter (ofP dip V.now)).length) c115) (((V.leases.filter (pruneP V.now)).filter (ofP dip V.now)).length) (((V.leases.filter (pruneP V.now)).filter (ofP dip V.now)).flatMap encL) ∧ World.ownsRow w_ 0 43 4 (.slice A5 n5 c5) n5 (((((V.leases.filter (pruneP V.now)).filter (ofP dip V.now)).take k).filter (oldP (outV V.snats dip) V.now)).flatMap encL) ∧ (k ≤ ((V.leases.filter (pruneP V.now)).filter (ofP dip V.now)).length)) ⟨_, _, ⟨0, none, 0, 0, rfl, rfl, hC127, ho120, ho121, ho122, ho123, hf124, ho125, ho118, own_nil _ _ _ _, Nat.zero_le _⟩, sub_of ⟨rfl, rfl, rfl, rfl, rfl, rfl, rfl, rfl, rfl, trivial⟩⟩ (fun m131 E_ w132 K128 hK129 hI130 => ?_)
   obtain ⟨k, A5, n5, c5, rfl, rfl, hC133, S_m131, N_m131, K_m131, L_m131, in_m131, row82_m131, row126_m131, hold, hk⟩ := hI130
   have hon_ := own_count encL_len (by decide) hold
   have honb_ : ((((V.leases.filter (pruneP V.now)).filter (ofP dip V.now)).take k).filter (oldP (outV V.snats dip) V.now)).length ≤ n := Nat.le_trans (List.length_filter_le _ _) (Nat.le_trans (by rw [List.length_take]; exact Nat.min_le_right _ _) holb_)
   refine WCs (fun K134 hK135 => ?_)
   refine WCg (WLr 1 [(56, .bool (decide ((k : Int) < (((V.leases.filter (pruneP V.now)).filter (ofP dip V.now)).length : Int))))] (fun _ => by kernel_rfl) (WLd rfl (QXn (hK135 _ _ ?_))))
   refine WCs (fun K136 hK137 => ?_)
   refine WCa 56 (decide ((k : Int) < (((V.leases.filter (pruneP V.now)).filter (ofP dip V.now)).length : Int))) rfl (fun t138b => ?_) (fun t138b => ?_)
   ·
    have t138 : (k : Int) < (((V.leases.filter (pruneP V.now)).filter (ofP dip V.now)).length : Int) := by have q_ := of_decide_eq_true t138b; omega
    refine WCt rfl ?_
    refine WC.skip ?_
    refine QXn (hK137 _ _ ?_)
    refine WCs (fun K139 hK140 => ?_)
    refine WC.block ?_
    refine WCs (fun K141 hK142 => ?_)
    refine WCg ?_
    have hn147 := own_count encL_len (by decide) row126_m131
    obtain ⟨e143, he144⟩ := get_some (xs := ((V.leases.filter (pruneP V.now)).filter (ofP dip V.now))) (i := k) (by omega)
    obtain ⟨b145, hA146⟩ := own_addr (by decide) encL_len row126_m131 he144
    refine WLi A114 (((V.leases.filter (pruneP V.now)).filter (ofP dip V.now)).length) c115 57 .i64 (k : Int) b145 0 k 4 (by kernel_rfl) hA146 (by omega) (by omega) (k * 4) (by first | (simp; done) | omega) ?_
    refine WL.load 43 (.pointer (some ⟨b145, k * 4, none⟩)) (.agg #[.int .u32 e143.vip, .int .i64 e143.first, .int .u32 e143.dip, .int .i64 e143.exp]) 58 (by kernel_rfl) (run_rdN (l := [.int .u32 e143.vip, .int .i64 e143.first, .int .u32 e143.dip, .int .i64 e143.exp]) rfl rfl (fun j u hu => by have hq_ := Rd.cell (own_rd row126_m131 encL_len (by decide)) hA146 he144 j u hu; simpa [Nat.add_assoc] using hq_)) ?_
    obtain ⟨hm1_, hm2_⟩ := List.mem_filter.1 (List.mem_of_getElem? he144)
    obtain ⟨hm3_, hm4_⟩ := in_leaL hm1_
    obtain ⟨hq1_, hq2_, hq3_, hq4_, hq5_, hq6_, hq7_, hq8_⟩ := hw.lok _ hm3_
    refine WL.newM hC133 (fun b => .pointer (some ⟨b, 0, none⟩)) (.cells #[.int .u32 0, .int .i64 0, .int .u32 0, .int .i64 0] 43) 9 (fun _ => by kernel_rfl) (fun g148 w149 hb152 hF150 hC151 => ?_)
    have ho153 := own_fr S_m131 hF150 (by simp)
    have ho154 := own_fr N_m131 hF150 (by simp)
    have ho155 := own_fr K_m131 hF150 (by simp)
    have ho156 := own_fr L_m131 hF150 (by simp)
    have hf157 := svcsIn.fr in_m131 hF150 (by simp)
    have ho158 := own_fr row82_m131 hF150 (by simp)
    have ho159 := own_fr row126_m131 hF150 (by simp)
    have ho160 := own_fr hold hF150 (by simp)
    refine WLs (c' := #[.int .u32 e143.vip, .int .i64 e143.first, .int .u32 e143.dip, .int .i64 e143.exp]) hC151 2 43 g148 0 (.agg #[.int .u32 e143.vip, .int .i64 e143.first, .int .u32 e143.dip, .int .i64 e143.exp]) (by kernel_rfl) rfl (by kernel_rfl) (fun w161 hF163 hC164 => ?_)
    have ho165 := own_fr ho153 hF163 (hC151.apartM 0 2 rfl rfl)
    have ho166 := own_fr ho154 hF163 (hC151.apartM 1 2 rfl rfl)
    have ho167 := own_fr ho155 hF163 (hC151.apartM 2 2 rfl rfl)
    have ho168 := own_fr ho156 hF163 (hC151.apartM 3 2 rfl rfl)
    have hf169 := svcsIn.fr hf157 hF163 (hC151.apartM 4 2 rfl rfl)
    have ho170 := own_fr ho158 hF163 (hC151.apartM 5 2 rfl rfl)
    have ho171 := own_fr ho159 hF163 (hC151.apartM 6 2 rfl rfl)
    have ho172 := own_fr ho160 hF163 (hC151.apartM 7 2 rfl rfl)
    refine WLd rfl (QXn (hK142 _ _ ?_))
    refine WCs (fun K173 hK174 => ?_)
    refine WC.drawC hC164 [] (by kernel_rfl) (fun w175 hF176 hC177 hS178 => ?_)
    have ho179 := own_fr ho165 hF176 (by simp)
    have ho180 := own_fr ho166 hF176 (by simp)
    have ho181 := own_fr ho167 hF176 (by simp)
    have ho182 := own_fr ho168 hF176 (by simp)
    have hf183 := svcsIn.fr hf169 hF176 (by simp)
    have ho184 := own_fr ho170 hF176 (by simp)
    have ho185 := own_fr ho171 hF176 (by simp)
    have ho186 := own_fr ho172 hF176 (by simp)
    refine WDp (NPt (NPb (NPt (NPt (NPb (NPt hN)))))) 0 59 (.pointer (some ⟨g148, 0, none⟩)) (by kernel_rfl) (fun _ => by kernel_rfl) hS178 ?_
    refine WDp (NPt (NPb (NPt (NPt (NPb (NPt hN)))))) 2 61 (.int .u32 (outV V.snats dip)) (by kernel_rfl) (fun _ => by kernel_rfl) hS178 ?_
    refine WDl (NPt (NPb (NPt (NPt (NPb (NPt hN)))))) 1 41 (.pointer (some ⟨g148, 0, none⟩)) (.int .u32 e143.vip) 60 (by kernel_rfl) (by kernel_rfl) (fun _ hS_ => run_ld (Fr.has hS_ (hC177.get 2 rfl) (by simp)) rfl) hS178 ?_
    refine WDp (NPt (NPb (NPt (NPt (NPb (NPt hN)))))) 3 62 (.bool (e143.vip == (outV V.snats dip))) (by kernel_rfl) (fun _ => by kernel_rfl) hS178 ?_
    refine WDp (NPt (NPb (NPt (NPt (NPb (NPt hN)))))) 4 63 (.bool (e143.vip == (outV V.snats dip))) (by kernel_rfl) (fun _ => by kernel_rfl) hS178 ?_
    refine WDa 63 (e143.vip == (outV V.snats dip)) rfl (fun t187b => ?_) (fun t187b => ?_)
    ·
     have t187 : e143.vip = (outV V.snats dip) := by simpa using t187b
     refine WDp (NPt (NPb (NPt (NPt (NPb (NPt hN)))))) 5 64 (.pointer (some ⟨g148, 3, none⟩)) (by kernel_rfl) (fun _ => by kernel_rfl) hS178 ?_
     refine WDp (NPt (NPb (NPt (NPt (NPb (NPt hN)))))) 7 66 (.pointer (some ⟨p, 0, none⟩)) (by kernel_rfl) (fun _ => by kernel_rfl) hS178 ?_
     refine WDp (NPt (NPb (NPt (NPt (NPb (NPt hN)))))) 8 67 (.pointer (some ⟨p, 0, none⟩)) (by kernel_rfl) (fun _ => by kernel_rfl) hS178 ?_
     refine WDp (NPt (NPb (NPt (NPt (NPb (NPt hN)))))) 9 68 (.pointer (some ⟨p, 0, none⟩)) (by kernel_rfl) (fun _ => by kernel_rfl) hS178 ?_
     refine WDp (NPt (NPb (NPt (NPt (NPb (NPt hN)))))) 10 69 (.pointer (some ⟨p, 1, none⟩)) (by kernel_rfl) (fun _ => by kernel_rfl) hS178 ?_
     refine WDl (NPt (NPb (NPt (NPt (NPb (NPt hN)))))) 6 3 (.pointer (some ⟨g148, 3, none⟩)) (.int .i64 e143.exp) 65 (by kernel_rfl) (by kernel_rfl) (fun _ hS_ => run_ld (Fr.has hS_ (hC177.get 2 rfl) (by simp)) rfl) hS178 ?_
     refine WDl (NPt (NPb (NPt (NPt (NPb (NPt hN)))))) 11 3 (.pointer (some ⟨p, 1, none⟩)) (.int .i64 V.now) 70 (by kernel_rfl) (by kernel_rfl) (fun _ hS_ => run_ld (Fr.has hS_ (hC177.get 0 rfl) (by simp)) rfl) hS178 ?_
     refine WDp (NPt (NPb (NPt (NPt (NPb (NPt hN)))))) 12 71 (.int .i64 (IntKind.i64.wrap (e143.exp - V.now))) (by kernel_rfl) (fun _ => by kernel_rfl) hS178 ?_
     refine WD.recast (show (.int .i64 (IntKind.i64.wrap (e143.exp - V.now)) : Value) = .int .i64 (e143.exp - V.now) from by rw [wrap_in_i64 (e143.exp - V.now) (by omega) (by omega)]) ?_
     refine WDp (NPt (NPb (NPt (NPt (NPb (NPt hN)))))) 13 72 (.bool (decide ((e143.exp - V.now) < 32))) (by kernel_rfl) (fun _ => by kernel_rfl) hS178 ?_
     refine WDp (NPt (NPb (NPt (NPt (NPb (NPt hN)))))) 14 73 (.bool (decide ((e143.exp - V.now) < 32))) (by kernel_rfl) (fun _ => by kernel_rfl) hS178 ?_
     refine WD.done (by kernel_rfl) ?_
     refine QXn (hK174 _ _ ?_)
     refine WCa 73 (decide ((e143.exp - V.now) < 32)) rfl (fun t188b => ?_) (fun t188b => ?_)
     ·
      have t188 : (e143.exp - V.now) < 32 := by have q_ := of_decide_eq_true t188b; omega
      refine WCt rfl ?_
      refine WCg (WLr 1 [(74, .slice A5 n5 c5)] (fun _ => by kernel_rfl) ?_)
      refine WL.load 43 (.pointer (some ⟨g148, 0, none⟩)) (.agg #[.int .u32 e143.vip, .int .i64 e143.first, .int .u32 e143.dip, .int .i64 e143.exp]) 75 (by kernel_rfl) (run_ld (hC177.get 2 rfl) rfl) ?_
      refine WL.newM hC177 (fun b => .slice (some ⟨b, 0, none⟩) 1 1) (.cells #[.int .u32 e143.vip, .int .i64 e143.first, .int .u32 e143.dip, .int .i64 e143.exp] 43) 76 (fun _ => by kernel_rfl) (fun g189 w190 hb193 hF191 hC192 => ?_)
      have ho194 := own_fr ho179 hF191 (by simp)
      have ho195 := own_fr ho180 hF191 (by simp)
      have ho196 := own_fr ho181 hF191 (by simp)
      have ho197 := own_fr ho182 hF191 (by simp)
      have hf198 := svcsIn.fr hf183 hF191 (by simp)
      have ho199 := own_fr ho184 hF191 (by simp)
      have ho200 := own_fr ho185 hF191 (by simp)
      have ho201 := own_fr ho186 hF191 (by simp)
      obtain ⟨v202, w203, hr204, ho205, hF206, hC207, hnil208, hsub209⟩ := app_run Tryd.prog hC192 7 (v := .slice A5 n5 c5) rfl 29 29 43 4 32 n5 1 1 (some ⟨g189, 0, none⟩) rfl ho201 [.int .u32 e143.vip, .int .i64 e143.first, .int .u32 e143.dip, .int .i64 e143.exp] rfl (srcOk.blk 1 (hC192.get 3 rfl)) rfl (by simp only [maxLen]; omega) (by omega)
      have ho213 := own_snoc (enc := encL) (ys := ((((V.leases.filter (pruneP V.now)).filter (ofP dip V.now)).take k).filter (oldP (outV V.snats dip) V.now))) e143 ho205
      obtain ⟨A210, c211, rfl, hle212⟩ := own_form ho213
      refine WL.sem (Builtin.append_ #[29, 29] 29 #[.slice A5 n5 c5, .slice (some ⟨g189, 0, none⟩) 1 1]) 77 (.slice A210 (n5 + 1) c211) (by kernel_rfl) hr204 ?_
      have ho214 := own_fr ho194 hF206 (hC192.disj 0 7 rfl rfl (by decide))
      have ho215 := own_fr ho195 hF206 (hC192.disj 1 7 rfl rfl (by decide))
      have ho216 := own_fr ho196 hF206 (hC192.disj 2 7 rfl rfl (by decide))
      have ho217 := own_fr ho197 hF206 (hC192.disj 3 7 rfl rfl (by decide))
      have hf218 := svcsIn.fr hf198 hF206 (hC192.disj 4 7 rfl rfl (by decide))
      have ho219 := own_fr ho199 hF206 (hC192.disj 5 7 rfl rfl (by decide))
      have ho220 := own_fr ho200 hF206 (hC192.disj 6 7 rfl rfl (by decide))
      refine WLr 1 [(7, .slice A210 (n5 + 1) c211)] (fun _ => by kernel_rfl) ?_
      refine WLd rfl ?_
      refine QXb ?_
      refine QXn (hK140 _ _ ?_)
      refine WCg (WLr 1 [(78, .int .i64 (IntKind.i64.wrap ((k : Int) + 1)))] (fun _ => by kernel_rfl) ?_)
      refine WLt (show (.int .i64 (IntKind.i64.wrap ((k : Int) + 1)) : Value) = .int .i64 ((k : Int) + 1) from by rw [wrap_in_i64 ((k : Int) + 1) (by omega) (by omega)]) ?_
      refine WLr 1 [(55, .int .i64 ((k : Int) + 1))] (fun _ => by kernel_rfl) ?_
      refine WLd rfl ?_
      refine QXn ?_
      have hC221 := hC207.pick [0, 1] [0, 1, 2, 3, 4, 5, 6, 7] rfl rfl
      refine fun a_ ha_ => hK129 _ _ _ ?_ ⟨k + 1, A210, n5 + 1, c211, rfl, rfl, hC221, ho214, ho215, ho216, ho217, hf218, ho219, ho220, by rw [filt_snoc (oldP (outV V.snats dip) V.now) he144, if_pos (by simp [oldP, t138, t138b, t187, t187b, t188, t188b, t29, t29b])]; exact ho213, by omega⟩ a_ (ha_.weaken (sub_of ⟨rfl, rfl, rfl, rfl, rfl, rfl, rfl, rfl, rfl, trivial⟩))
      omega
     ·
      have t188 : (32 : Int) ≤ (e143.exp - V.now) := by have q_ := of_decide_eq_false t188b; omega
      refine WCf rfl (WC.skip ?_)
      refine QXb ?_
      refine QXn (hK140 _ _ ?_)
      refine WCg (WLr 1 [(78, .int .i64 (IntKind.i64.wrap ((k : Int) + 1)))] (fun _ => by kernel_rfl) ?_)
      refine WLt (show (.int .i64 (IntKind.i64.wrap ((k : Int) + 1)) : Value) = .int .i64 ((k : Int) + 1) from by rw [wrap_in_i64 ((k : Int) + 1) (by omega) (by omega)]) ?_
      refine WLr 1 [(55, .int .i64 ((k : Int) + 1))] (fun _ => by kernel_rfl) ?_
      refine WLd rfl ?_
      refine QXn ?_
      have hC222 := hC177.pick [0, 1] [0, 1, 2, 3, 4, 5, 6, 7] rfl rfl
      refine fun a_ ha_ => hK129 _ _ _ ?_ ⟨k + 1, A5, n5, c5, rfl, rfl, hC222, ho179, ho180, ho181, ho182, hf183, ho184, ho185, by rw [filt_snoc (oldP (outV V.snats dip) V.now) he144, if_neg (by simp [oldP, t138, t138b, t187, t187b, t188, t188b, t29, t29b] <;> omega), List.append_nil]; exact ho186, by omega⟩ a_ (ha_.weaken (sub_of ⟨rfl, rfl, rfl, rfl, rfl, rfl, rfl, rfl, rfl, trivial⟩))
      omega
    ·
     have t187 : ¬ (e143.vip = (outV V.snats dip)) := by simpa using t187b
     refine WDp (NPt (NPb (NPt (NPt (NPb (NPt hN)))))) 5 64 (undef) (by kernel_rfl) (fun _ => by kernel_rfl) hS178 ?_
     refine WDp (NPt (NPb (NPt (NPt (NPb (NPt hN)))))) 6 65 (undef) (by kernel_rfl) (fun _ => by kernel_rfl) hS178 ?_
     refine WDp (NPt (NPb (NPt (NPt (NPb (NPt hN)))))) 7 66 (undef) (by kernel_rfl) (fun _ => by kernel_rfl) hS178 ?_
     refine WDp (NPt (NPb (NPt (NPt (NPb (NPt hN)))))) 8 67 (undef) (by kernel_rfl) (fun _ => by kernel_rfl) hS178 ?_
     refine WDp (NPt (NPb (NPt (NPt (NPb (NPt hN)))))) 9 68 (undef) (by kernel_rfl) (fun _ => by kernel_rfl) hS178 ?_
     refine WDp (NPt (NPb (NPt (NPt (NPb (NPt hN)))))) 10 69 (undef) (by kernel_rfl) (fun _ => by kernel_rfl) hS178 ?_
     refine WDp (NPt (NPb (NPt (NPt (NPb (NPt hN)))))) 11 70 (undef) (by kernel_rfl) (fun _ => by kernel_rfl) hS178 ?_
     refine WDp (NPt (NPb (NPt (NPt (NPb (NPt hN)))))) 12 71 (undef) (by kernel_rfl) (fun _ => by kernel_rfl) hS178 ?_
     refine WDp (NPt (NPb (NPt (NPt (NPb (NPt hN)))))) 13 72 (undef) (by kernel_rfl) (fun _ => by kernel_rfl) hS178 ?_
     refine WDp (NPt (NPb (NPt (NPt (NPb (NPt hN)))))) 14 73 (.bool false) (by kernel_rfl) (fun _ => by kernel_rfl) hS178 ?_
     refine WD.done (by kernel_rfl) ?_
     refine QXn (hK174 _ _ ?_)
     refine WCf rfl (WC.skip ?_)
     refine QXb ?_
     refine QXn (hK140 _ _ ?_)
     refine WCg (WLr 1 [(78, .int .i64 (IntKind.i64.wrap ((k : Int) + 1)))] (fun _ => by kernel_rfl) ?_)
     refine WLt (show (.int .i64 (IntKind.i64.wrap ((k : Int) + 1)) : Value) = .int .i64 ((k : Int) + 1) from by rw [wrap_in_i64 ((k : Int) + 1) (by omega) (by omega)]) ?_
     refine WLr 1 [(55, .int .i64 ((k : Int) + 1))] (fun _ => by kernel_rfl) ?_
     refine WLd rfl ?_
     refine QXn ?_
     have hC223 := hC177.pick [0, 1] [0, 1, 2, 3, 4, 5, 6, 7] rfl rfl
     refine fun a_ ha_ => hK129 _ _ _ ?_ ⟨k + 1, A5, n5, c5, rfl, rfl, hC223, ho179, ho180, ho181, ho182, hf183, ho184, ho185, by rw [filt_snoc (oldP (outV V.snats dip) V.now) he144, if_neg (by simp [oldP, t138, t138b, t187, t187b, t29, t29b] <;> omega), List.append_nil]; exact ho186, by omega⟩ a_ (ha_.weaken (sub_of ⟨rfl, rfl, rfl, rfl, rfl, rfl, rfl, rfl, rfl, trivial⟩))
     omega
   ·
    have t138 : (((V.leases.filter (pruneP V.now)).filter (ofP dip V.now)).length : Int) ≤ (k : Int) := by have q_ := of_decide_eq_false t138b; omega
    refine WCf rfl ?_
    have hke_ : k = ((V.leases.filter (pruneP V.now)).filter (ofP dip V.now)).length := by omega
    have hold224 := hold
    rw [List.take_of_length_le (by omega)] at hold224 hon_ honb_
    have hfo_ : ((V.leases.filter (pruneP V.now)).filter (ofP dip V.now)).filter (oldP (outV V.snats dip) V.now) = (oldL V (outV V.snats dip) dip) := rfl
    rw [hfo_] at hold224 hon_ honb_
    skip
    refine WC.exit ?_
    refine QXe ?_
    refine QXe ?_
    refine QX.block_hit ?_
    refine QXn (hK97 _ _ ?_)
    refine WCs (fun K225 hK226 => ?_)
    refine WCg (WLr 1 [(10, .slice none 0 0)] (fun _ => by kernel_rfl) (WLd rfl (QXn (hK226 _ _ ?_))))
    refine WCs (fun K227 hK228 => ?_)
    refine WCg ?_
    refine WL.newM hC133 (fun b => .pointer (some ⟨b, 0, none⟩)) (.cells #[.int .u32 0, .int .i64 0, .int .u32 0, .int .i64 0] 43) 11 (fun _ => by kernel_rfl) (fun g229 w230 hb233 hF231 hC232 => ?_)
    have ho234 := own_fr S_m131 hF231 (by simp)
    have ho235 := own_fr N_m131 hF231 (by simp)
    have ho236 := own_fr K_m131 hF231 (by simp)
    have hf238 := svcsIn.fr in_m131 hF231 (by simp)
    have ho239 := own_fr row82_m131 hF231 (by simp)
    have ho241 := own_fr hold224 hF231 (by simp)
    refine WLd rfl (QXn (hK228 _ _ ?_))
    refine WCs (fun K242 hK243 => ?_)
    refine WCg (WLr 1 [(12, .nilIface)] (fun _ => by kernel_rfl) (WLd rfl (QXn (hK243 _ _ ?_))))
    refine WCs (fun K244 hK245 => ?_)
    refine WCs (fun K246 hK247 => ?_)
    refine WCg (WLr 3 [(81, .bool (decide ((n5 : Int) > 0))), (80, .int .i64 (n5 : Int)), (79, .slice A5 n5 c5)] (fun _ => by kernel_rfl) (WLd rfl (QXn (hK247 _ _ ?_))))
    refine WCa 81 (decide ((n5 : Int) > 0)) rfl (fun t248b => ?_) (fun t248b => ?_)
    ·
     have t248 : (0 : Int) < (n5 : Int) := by have q_ := of_decide_eq_true t248b; omega
     refine WCt rfl ?_
     refine WCs (fun K249 hK250 => ?_)
     refine WCg (WLr 1 [(82, .slice A5 n5 c5)] (fun _ => by kernel_rfl) ?_)
     have hmn_ := own_count encL_len (by decide) ho241
     refine WLc rfl rfl rfl rfl rfl (by kernel_rfl) (Min_n A5 n5 c5 (oldL V (outV V.snats dip) dip) w230 (own_rd ho241 encL_len (by decide)) hmn_ (by omega) (by omega)) ?_
     rintro _ w252 ⟨rfl, hF251⟩
     refine ⟨_, rfl, ?_⟩
     have hC253 := hC232.call hF251
     have ho254 := own_fr ho234 hF251 (by simp)
     have ho255 := own_fr ho235 hF251 (by simp)
     have ho256 := own_fr ho236 hF251 (by simp)
     have hf258 := svcsIn.fr hf238 hF251 (by simp)
     have ho259 := own_fr ho239 hF251 (by simp)
     refine WL.newM hC253 (fun b => .pointer (some ⟨b, 0, none⟩)) (.cells #[.int .u32 0, .int .i64 0, .int .u32 0, .int .i64 0] 43) 13 (fun _ => by kernel_rfl) (fun g262 w263 hb266 hF264 hC265 => ?_)
     have ho267 := own_fr ho254 hF264 (by simp)
     have ho268 := own_fr ho255 hF264 (by simp)
     have ho269 := own_fr ho256 hF264 (by simp)
     have hf271 := svcsIn.fr hf258 hF264 (by simp)
     have ho272 := own_fr ho259 hF264 (by simp)
     refine WLs (c' := #[.int .u32 ((minL (oldL V (outV V.snats dip) dip)).vip), .int .i64 ((minL (oldL V (outV V.snats dip) dip)).first), .int .u32 ((minL (oldL V (outV V.snats dip) dip)).dip), .int .i64 ((minL (oldL V (outV V.snats dip) dip)).exp)]) hC265 3 43 g262 0 (.agg #[.int .u32 ((minL (oldL V (outV V.snats dip) dip)).vip), .int .i64 ((minL (oldL V (outV V.snats dip) dip)).first), .int .u32 ((minL (oldL V (outV V.snats dip) dip)).dip), .int .i64 ((minL (oldL V (outV V.snats dip) dip)).exp)]) (by kernel_rfl) rfl (by kernel_rfl) (fun w275 hF277 hC278 => ?_)
     have ho279 := own_fr ho267 hF277 (hC265.apartM 0 3 rfl rfl)
     have ho280 := own_fr ho268 hF277 (hC265.apartM 1 3 rfl rfl)
     have ho281 := own_fr ho269 hF277 (hC265.apartM 2 3 rfl rfl)
     have hf283 := svcsIn.fr hf271 hF277 (hC265.apartM 4 3 rfl rfl)
     have ho284 := own_fr ho272 hF277 (hC265.apartM 5 3 rfl rfl)
     refine WLd rfl (QXn (hK250 _ _ ?_))
     refine WC.drawC hC278 [g229] (by kernel_rfl) (fun w287 hF288 hC289 hS290 => ?_)
     have ho291 := own_fr ho279 hF288 (by simp)
     have ho292 := own_fr ho280 hF288 (by simp)
     have ho293 := own_fr ho281 hF288 (by simp)
     have hf295 := svcsIn.fr hf283 hF288 (by simp)
     have ho296 := own_fr ho284 hF288 (by simp)
     refine WDp (NPt hN) 0 85 (.pointer (some ⟨p, 0, none⟩)) (by kernel_rfl) (fun _ => by kernel_rfl) hS290 ?_
     refine WDp (NPt hN) 1 86 (.pointer (some ⟨p, 0, none⟩)) (by kernel_rfl) (fun _ => by kernel_rfl) hS290 ?_
     refine WDp (NPt hN) 2 87 (.pointer (some ⟨p, 0, none⟩)) (by kernel_rfl) (fun _ => by kernel_rfl) hS290 ?_
     refine WDp (NPt hN) 3 88 (.pointer (some ⟨p, 5, none⟩)) (by kernel_rfl) (fun _ => by kernel_rfl) hS290 ?_
     refine WDp (NPt hN) 5 90 (.int .u32 (outV V.snats dip)) (by kernel_rfl) (fun _ => by kernel_rfl) hS290 ?_
     refine WDp (NPt hN) 6 91 (.pointer (some ⟨g262, 1, none⟩)) (by kernel_rfl) (fun _ => by kernel_rfl) hS290 ?_
     refine WDp (NPt hN) 8 93 (.int .u32 dip) (by kernel_rfl) (fun _ => by kernel_rfl) hS290 ?_
     refine WDp (NPt hN) 9 94 (.pointer (some ⟨p, 0, none⟩)) (by kernel_rfl) (fun _ => by kernel_rfl) hS290 ?_
     refine WDp (NPt hN) 10 95 (.pointer (some ⟨p, 0, none⟩)) (by kernel_rfl) (fun _ => by kernel_rfl) hS290 ?_
     refine WDp (NPt hN) 11 96 (.pointer (some ⟨p, 0, none⟩)) (by kernel_rfl) (fun _ => by kernel_rfl) hS290 ?_
     refine WDp (NPt hN) 12 97 (.pointer (some ⟨p, 1, none⟩)) (by kernel_rfl) (fun _ => by kernel_rfl) hS290 ?_
     refine WDl (NPt hN) 4 29 (.pointer (some ⟨p, 5, none⟩)) (.slice A70 ((V.leases.filter (pruneP V.now)).length) c71) 89 (by kernel_rfl) (by kernel_rfl) (fun _ hS_ => run_ld (Fr.has hS_ (hC289.get 0 rfl) (by simpa using hC289.ne 0 2 rfl rfl (by decide))) rfl) hS290 ?_
     refine WDl (NPt hN) 7 3 (.pointer (some ⟨g262, 1, none⟩)) (.int .i64 ((minL (oldL V (outV V.snats dip) dip)).first)) 92 (by kernel_rfl) (by kernel_rfl) (fun _ hS_ => run_ld (Fr.has hS_ (hC289.get 3 rfl) (by simpa using hC289.ne 3 2 rfl rfl (by decide))) rfl) hS290 ?_
     refine WD.sem 13 (Instr.loadAt 3 (.pointer (some ⟨p, 1, none⟩))) 98 (.int .i64 V.now) (by kernel_rfl) (by kernel_rfl) (run_ld (hC289.get 0 rfl) rfl) hS290 ?_
     refine WD.call 14 (by kernel_rfl) rfl rfl rfl rfl rfl (by kernel_rfl) (Renew_ct A70 c71 (V.leases.filter (pruneP V.now)) (outV V.snats dip) ((minL (oldL V (outV V.snats dip) dip)).first) dip V.now w287 (own_rd ho296 encL_len (by decide)) (fun l_ h_ => hw.lok l_ (List.mem_filter.1 h_).1) (by omega)) ?_
     rintro _ w301 ⟨v_, rfl, hF300, ho299⟩
     have hC302 := hC289.callN hF300 (own_ge ho299) (own_lt ho299)
     obtain ⟨A303, c304, rfl, hle305⟩ := own_form ho299
     have ho307 := own_base (b' := 0) ho299 (fun _ _ => Nat.zero_le _)
     have hS308 := hS290.trans hF300 (by simp)
     refine ⟨_, rfl, hS308, ?_⟩
     have ho309 := own_fr ho291 hF300 (by simp)
     have ho310 := own_fr ho292 hF300 (by simp)
     have ho311 := own_fr ho293 hF300 (by simp)
     have hf313 := svcsIn.fr hf295 hF300 (by simp)
     have ho314 := own_fr ho296 hF300 (by simp)
     refine WDp (NPt hN) 15 84 (.tuple #[.slice A303 ((rnX (V.leases.filter (pruneP V.now)) (outV V.snats dip) ((minL (oldL V (outV V.snats dip) dip)).first) dip V.now).length) c304, .agg #[.int .u32 ((rnL (V.leases.filter (pruneP V.now)) (outV V.snats dip) ((minL (oldL V (outV V.snats dip) dip)).first) dip V.now).vip), .int .i64 ((rnL (V.leases.filter (pruneP V.now)) (outV V.snats dip) ((minL (oldL V (outV V.snats dip) dip)).first) dip V.now).first), .int .u32 ((rnL (V.leases.filter (pruneP V.now)) (outV V.snats dip) ((minL (oldL V (outV V.snats dip) dip)).first) dip V.now).dip), .int .i64 ((rnL (V.leases.filter (pruneP V.now)) (outV V.snats dip) ((minL (oldL V (outV V.snats dip) dip)).first) dip V.now).exp)], errV 73 (rnE (V.leases.filter (pruneP V.now)) (outV V.snats dip) ((minL (oldL V (outV V.snats dip) dip)).first) dip V.now)]) (by kernel_rfl) (fun _ => by kernel_rfl) hS308 ?_
     refine WDp (NPt hN) 16 100 (.slice A303 ((rnX (V.leases.filter (pruneP V.now)) (outV V.snats dip) ((minL (oldL V (outV V.snats dip) dip)).first) dip V.now).length) c304) (by kernel_rfl) (fun _ => by kernel_rfl) hS308 ?_
     refine WDp (NPt hN) 17 101 (.agg #[.int .u32 ((rnL (V.leases.filter (pruneP V.now)) (outV V.snats dip) ((minL (oldL V (outV V.snats dip) dip)).first) dip V.now).vip), .int .i64 ((rnL (V.leases.filter (pruneP V.now)) (outV V.snats dip) ((minL (oldL V (outV V.snats dip) dip)).first) dip V.now).first), .int .u32 ((rnL (V.leases.filter (pruneP V.now)) (outV V.snats dip) ((minL (oldL V (outV V.snats dip) dip)).first) dip V.now).dip), .int .i64 ((rnL (V.leases.filter (pruneP V.now)) (outV V.snats dip) ((minL (oldL V (outV V.snats dip) dip)).first) dip V.now).exp)]) (by kernel_rfl) (fun _ => by kernel_rfl) hS308 ?_
     refine WDp (NPt hN) 18 102 (errV 73 (rnE (V.leases.filter (pruneP V.now)) (outV V.snats dip) ((minL (oldL V (outV V.snats dip) dip)).first) dip V.now)) (by kernel_rfl) (fun _ => by kernel_rfl) hS308 ?_
     refine WDp (NPt hN) 19 10 (.slice A303 ((rnX (V.leases.filter (pruneP V.now)) (outV V.snats dip) ((minL (oldL V (outV V.snats dip) dip)).first) dip V.now).length) c304) (by kernel_rfl) (fun _ => by kernel_rfl) hS308 ?_
     obtain ⟨w318, hr319, hF320, hC321⟩ := sto_run (c' := #[.int .u32 ((rnL (V.leases.filter (pruneP V.now)) (outV V.snats dip) ((minL (oldL V (outV V.snats dip) dip)).first) dip V.now).vip), .int .i64 ((rnL (V.leases.filter (pruneP V.now)) (outV V.snats dip) ((minL (oldL V (outV V.snats dip) dip)).first) dip V.now).first), .int .u32 ((rnL (V.leases.filter (pruneP V.now)) (outV V.snats dip) ((minL (oldL V (outV V.snats dip) dip)).first) dip V.now).dip), .int .i64 ((rnL (V.leases.filter (pruneP V.now)) (outV V.snats dip) ((minL (oldL V (outV V.snats dip) dip)).first) dip V.now).exp)]) Tryd.prog hC302 2 43 g229 0 (.agg #[.int .u32 ((rnL (V.leases.filter (pruneP V.now)) (outV V.snats dip) ((minL (oldL V (outV V.snats dip) dip)).first) dip V.now).vip), .int .i64 ((rnL (V.leases.filter (pruneP V.now)) (outV V.snats dip) ((minL (oldL V (outV V.snats dip) dip)).first) dip V.now).first), .int .u32 ((rnL (V.leases.filter (pruneP V.now)) (outV V.snats dip) ((minL (oldL V (outV V.snats dip) dip)).first) dip V.now).dip), .int .i64 ((rnL (V.leases.filter (pruneP V.now)) (outV V.snats dip) ((minL (oldL V (outV V.snats dip) dip)).first) dip V.now).exp)]) rfl (by kernel_rfl)
     have hS322 := hS308.trans hF320 (by first | (simp; done) | (simp [*]; done) | (have q_ := hS308.size; simp; omega))
     refine WD.semU 20 (Instr.storeAt 43 (.pointer (some ⟨g229, 0, none⟩)) (.agg #[.int .u32 ((rnL (V.leases.filter (pruneP V.now)) (outV V.snats dip) ((minL (oldL V (outV V.snats dip) dip)).first) dip V.now).vip), .int .i64 ((rnL (V.leases.filter (pruneP V.now)) (outV V.snats dip) ((minL (oldL V (outV V.snats dip) dip)).first) dip V.now).first), .int .u32 ((rnL (V.leases.filter (pruneP V.now)) (outV V.snats dip) ((minL (oldL V (outV V.snats dip) dip)).first) dip V.now).dip), .int .i64 ((rnL (V.leases.filter (pruneP V.now)) (outV V.snats dip) ((minL (oldL V (outV V.snats dip) dip)).first) dip V.now).exp)])) (by kernel_rfl) (by kernel_rfl) hr319 hS322 ?_
     have ho323 := own_fr ho309 hF320 (hC302.apartM 0 2 rfl rfl)
     have ho324 := own_fr ho310 hF320 (hC302.apartM 1 2 rfl rfl)
     have ho325 := own_fr ho311 hF320 (hC302.apartM 2 2 rfl rfl)
     have hf327 := svcsIn.fr hf313 hF320 (hC302.apartM 4 2 rfl rfl)
     have ho328 := own_fr ho314 hF320 (hC302.apartM 5 2 rfl rfl)
     have ho331 := own_fr ho307 hF320 (hC302.apartM 8 2 rfl rfl)
     refine WDp (NPt hN) 21 12 (errV 73 (rnE (V.leases.filter (pruneP V.now)) (outV V.snats dip) ((minL (oldL V (outV V.snats dip) dip)).first) dip V.now)) (by kernel_rfl) (fun _ => by kernel_rfl) hS322 ?_
     refine WD.done (by kernel_rfl) ?_
     refine QXn (hK245 _ _ ?_)
     refine WCs (fun K332 hK333 => ?_)
     refine WCs (fun K334 hK335 => ?_)
     refine WCg (WLr 1 [(120, errV 73 (rnE (V.leases.filter (pruneP V.now)) (outV V.snats dip) ((minL (oldL V (outV V.snats dip) dip)).first) dip V.now))] (fun _ => by kernel_rfl) ?_)
     have hr336 : ∀ w_, Sem.run Tryd.prog (do eqGuard .neq 38 (Operand.tmp 120) (Operand.const (.nilIface)) (errV 73 (rnE (V.leases.filter (pruneP V.now)) (outV V.snats dip) ((minL (oldL V (outV V.snats dip) dip)).first) dip V.now)) (.nilIface); binOp .neq 38 (errV 73 (rnE (V.leases.filter (pruneP V.now)) (outV V.snats dip) ((minL (oldL V (outV V.snats dip) dip)).first) dip V.now)) (.nilIface)) w_ = .ok (.bool (!(decide (rnE (V.leases.filter (pruneP V.now)) (outV V.snats dip) ((minL (oldL V (outV V.snats dip) dip)).first) dip V.now = 0)))) w_ := fun w_ => (err_neq _ (rnE (V.leases.filter (pruneP V.now)) (outV V.snats dip) ((minL (oldL V (outV V.snats dip) dip)).first) dip V.now) (decide (rnE (V.leases.filter (pruneP V.now)) (outV V.snats dip) ((minL (oldL V (outV V.snats dip) dip)).first) dip V.now = 0)) (by rfl) _)
     refine WL.sem (do eqGuard .neq 38 (Operand.tmp 120) (Operand.const (.nilIface)) (errV 73 (rnE (V.leases.filter (pruneP V.now)) (outV V.snats dip) ((minL (oldL V (outV V.snats dip) dip)).first) dip V.now)) (.nilIface); binOp .neq 38 (errV 73 (rnE (V.leases.filter (pruneP V.now)) (outV V.snats dip) ((minL (oldL V (outV V.snats dip) dip)).first) dip V.now)) (.nilIface)) 121 (.bool (!(decide (rnE (V.leases.filter (pruneP V.now)) (outV V.snats dip) ((minL (oldL V (outV V.snats dip) dip)).first) dip V.now = 0)))) (by kernel_rfl) (hr336 _) ?_
     refine WLd rfl (QXn (hK335 _ _ ?_))
     refine WCa 121 (!(decide (rnE (V.leases.filter (pruneP V.now)) (outV V.snats dip) ((minL (oldL V (outV V.snats dip) dip)).first) dip V.now = 0))) rfl (fun t337b => ?_) (fun t337b => ?_)
     ·
      have t337 : (decide (rnE (V.leases.filter (pruneP V.now)) (outV V.snats dip) ((minL (oldL V (outV V.snats dip) dip)).first) dip V.now = 0)) = false := by first | (simpa only [Bool.not_eq_true', Bool.not_eq_false'] using t337b) | simpa using t337b
      refine WCt rfl ?_
      refine WCs (fun K338 hK339 => ?_)
      refine WCg (WLr 1 [(122, errV 73 (rnE (V.leases.filter (pruneP V.now)) (outV V.snats dip) ((minL (oldL V (outV V.snats dip) dip)).first) dip V.now))] (fun _ => by kernel_rfl) ?_)
      refine WLc rfl rfl rfl rfl rfl (by kernel_rfl) (result_ct (rnE (V.leases.filter (pruneP V.now)) (outV V.snats dip) ((minL (oldL V (outV V.snats dip) dip)).first) dip V.now) w318) ?_
      rintro _ w341 ⟨rfl, hF340⟩
      refine ⟨_, rfl, ?_⟩
      have hC342 := hC321.call hF340
      have ho343 := own_fr ho323 hF340 (by simp)
      have ho344 := own_fr ho324 hF340 (by simp)
      have ho345 := own_fr ho325 hF340 (by simp)
      have hf347 := svcsIn.fr hf327 hF340 (by simp)
      have ho348 := own_fr ho328 hF340 (by simp)
      refine WLs (c' := #[.int .i64 (rnE (V.leases.filter (pruneP V.now)) (outV V.snats dip) ((minL (oldL V (outV V.snats dip) dip)).first) dip V.now), .int .u32 0, .int .i64 0, .int .u32 0, .int .i64 0]) hC342 1 47 g3 0 (.agg #[.int .i64 (rnE (V.leases.filter (pruneP V.now)) (outV V.snats dip) ((minL (oldL V (outV V.snats dip) dip)).first) dip V.now), .int .u32 0, .int .i64 0, .int .u32 0, .int .i64 0]) (by kernel_rfl) rfl (by kernel_rfl) (fun w352 hF354 hC355 => ?_)
      have ho356 := own_fr ho343 hF354 (hC342.apartM 0 1 rfl rfl)
      have ho357 := own_fr ho344 hF354 (hC342.apartM 1 1 rfl rfl)
      have ho358 := own_fr ho345 hF354 (hC342.apartM 2 1 rfl rfl)
      have hf360 := svcsIn.fr hf347 hF354 (hC342.apartM 4 1 rfl rfl)
      have ho361 := own_fr ho348 hF354 (hC342.apartM 5 1 rfl rfl)
      refine WLd rfl (QXn (hK339 _ _ ?_))
      refine WC.ret ?_
      refine QXr ?_
      refine (hret' _ _ (.agg #[.int .i64 (rnE (V.leases.filter (pruneP V.now)) (outV V.snats dip) ((minL (oldL V (outV V.snats dip) dip)).first) dip V.now), .int .u32 0, .int .i64 0, .int .u32 0, .int .i64 0]) (fun a ha => ?_) ?_).1
      ·
       exact res_run ha ((ResR.cell rfl (run_ld (hC355.get 1 rfl) rfl) ResR.nil)) rfl
      clear hN hret hret' hK339 hK335 hK333 hK250 hK247 hK245 hK243 hK228 hK226 hK137 hK135 hK99 hK97 hK95 hK55 hK28 hK26 hK15 hK2
      have hE_ : lendE V (outV V.snats dip) dip = rnE (leaL V) (outV V.snats dip) (minL (oldL V (outV V.snats dip) dip)).first dip V.now := by unfold lendE; rw [if_neg (fun e_ => by rw [e_] at hon_; simp at hon_; omega)]
      have hL_ : lendL V (outV V.snats dip) dip = rnL (leaL V) (outV V.snats dip) (minL (oldL V (outV V.snats dip) dip)).first dip V.now := by unfold lendL; rw [if_neg (fun e_ => by rw [e_] at hon_; simp at hon_; omega)]
      have hX_ : lendX V (outV V.snats dip) dip = rnX (leaL V) (outV V.snats dip) (minL (oldL V (outV V.snats dip) dip)).first dip V.now := by unfold lendX; rw [if_neg (fun e_ => by rw [e_] at hon_; simp at hon_; omega)]
      have hz_ : ¬ rnE (leaL V) (outV V.snats dip) (minL (oldL V (outV V.snats dip) dip)).first dip V.now = 0 := (by have q_ := t337b; simpa [leaL] using q_)
      have hR_ : leaseR V dip = ⟨rnE (leaL V) (outV V.snats dip) (minL (oldL V (outV V.snats dip) dip)).first dip V.now, noL⟩ := by unfold leaseR; rw [if_neg (by rw [t29]; decide)]; rw [hE_, if_neg hz_]
      have hV_ : leaseC V dip = { V with leases := leaL V } := by unfold leaseC; rw [if_neg (by rw [t29]; decide)]; rw [hE_, if_neg hz_]
      rw [hR_, hV_]
      have hC368 := Cx.pickM hC355 [0] [0, 1, 2, 4, 5] (by decide) rfl rfl
      have hC369 := Cx_sw5 hC368
      obtain ⟨hT365, hfr366, hsub367⟩ := cfg_close (V := { V with leases := leaL V }) (xs := xs) hC369 ho356 ho357 ho358 ho361 hf360 hvals
      exact ⟨_, rfl, hfr366, hT365, hsub367⟩
     ·
      have t337 : (decide (rnE (V.leases.filter (pruneP V.now)) (outV V.snats dip) ((minL (oldL V (outV V.snats dip) dip)).first) dip V.now = 0)) = true := by first | (simpa only [Bool.not_eq_true', Bool.not_eq_false'] using t337b) | simpa using t337b
      refine WCf rfl (WC.skip (QXn (hK333 _ _ ?_)))
      refine WCs (fun K370 hK371 => ?_)
      refine WCg (WLr 5 [(128, .pointer (some ⟨p, 5, none⟩)), (127, .pointer (some ⟨p, 0, none⟩)), (126, .pointer (some ⟨p, 0, none⟩)), (125, .slice A303 ((rnX (V.leases.filter (pruneP V.now)) (outV V.snats dip) ((minL (oldL V (outV V.snats dip) dip)).first) dip V.now).length) c304), (124, .pointer (some ⟨p, 0, none⟩))] (fun _ => by kernel_rfl) ?_)
      refine WLs (c' := #[.int .i64 V.epoch, .int .i64 V.now, .slice AS xs.length cS, .slice AN V.snats.length cN, .slice AK V.sick.length cK, .slice A303 ((rnX (V.leases.filter (pruneP V.now)) (outV V.snats dip) ((minL (oldL V (outV V.snats dip) dip)).first) dip V.now).length) c304]) hC321 0 29 p 5 (.slice A303 ((rnX (V.leases.filter (pruneP V.now)) (outV V.snats dip) ((minL (oldL V (outV V.snats dip) dip)).first) dip V.now).length) c304) (by kernel_rfl) rfl (by kernel_rfl) (fun w372 hF374 hC375 => ?_)
      have ho376 := own_fr ho323 hF374 (hC321.apartM 0 0 rfl rfl)
      have ho377 := own_fr ho324 hF374 (hC321.apartM 1 0 rfl rfl)
      have ho378 := own_fr ho325 hF374 (hC321.apartM 2 0 rfl rfl)
      have hf380 := svcsIn.fr hf327 hF374 (hC321.apartM 4 0 rfl rfl)
      have ho384 := own_fr ho331 hF374 (hC321.apartM 8 0 rfl rfl)
      refine WLd rfl (QXn (hK371 _ _ ?_))
      refine WCs (fun K385 hK386 => ?_)
      refine WCg ?_
      refine WL.load 43 (.pointer (some ⟨g229, 0, none⟩)) (.agg #[.int .u32 ((rnL (V.leases.filter (pruneP V.now)) (outV V.snats dip) ((minL (oldL V (outV V.snats dip) dip)).first) dip V.now).vip), .int .i64 ((rnL (V.leases.filter (pruneP V.now)) (outV V.snats dip) ((minL (oldL V (outV V.snats dip) dip)).first) dip V.now).first), .int .u32 ((rnL (V.leases.filter (pruneP V.now)) (outV V.snats dip) ((minL (oldL V (outV V.snats dip) dip)).first) dip V.now).dip), .int .i64 ((rnL (V.leases.filter (pruneP V.now)) (outV V.snats dip) ((minL (oldL V (outV V.snats dip) dip)).first) dip V.now).exp)]) 129 (by kernel_rfl) (run_ld (hC375.get 2 rfl) rfl) ?_
      refine WLr 1 [(130, .agg #[.int .i64 0, .int .u32 ((rnL (V.leases.filter (pruneP V.now)) (outV V.snats dip) ((minL (oldL V (outV V.snats dip) dip)).first) dip V.now).vip), .int .i64 ((rnL (V.leases.filter (pruneP V.now)) (outV V.snats dip) ((minL (oldL V (outV V.snats dip) dip)).first) dip V.now).first), .int .u32 ((rnL (V.leases.filter (pruneP V.now)) (outV V.snats dip) ((minL (oldL V (outV V.snats dip) dip)).first) dip V.now).dip), .int .i64 ((rnL (V.leases.filter (pruneP V.now)) (outV V.snats dip) ((minL (oldL V (outV V.snats dip) dip)).first) dip V.now).exp)])] (fun _ => by kernel_rfl) ?_
      refine WLs (c' := #[.int .i64 0, .int .u32 ((rnL (V.leases.filter (pruneP V.now)) (outV V.snats dip) ((minL (oldL V (outV V.snats dip) dip)).first) dip V.now).vip), .int .i64 ((rnL (V.leases.filter (pruneP V.now)) (outV V.snats dip) ((minL (oldL V (outV V.snats dip) dip)).first) dip V.now).first), .int .u32 ((rnL (V.leases.filter (pruneP V.now)) (outV V.snats dip) ((minL (oldL V (outV V.snats dip) dip)).first) dip V.now).dip), .int .i64 ((rnL (V.leases.filter (pruneP V.now)) (outV V.snats dip) ((minL (oldL V (outV V.snats dip) dip)).first) dip V.now).exp)]) hC375 1 47 g3 0 (.agg #[.int .i64 0, .int .u32 ((rnL (V.leases.filter (pruneP V.now)) (outV V.snats dip) ((minL (oldL V (outV V.snats dip) dip)).first) dip V.now).vip), .int .i64 ((rnL (V.leases.filter (pruneP V.now)) (outV V.snats dip) ((minL (oldL V (outV V.snats dip) dip)).first) dip V.now).first), .int .u32 ((rnL (V.leases.filter (pruneP V.now)) (outV V.snats dip) ((minL (oldL V (outV V.snats dip) dip)).first) dip V.now).dip), .int .i64 ((rnL (V.leases.filter (pruneP V.now)) (outV V.snats dip) ((minL (oldL V (outV V.snats dip) dip)).first) dip V.now).exp)]) (by kernel_rfl) rfl (by kernel_rfl) (fun w387 hF389 hC390 => ?_)
      have ho391 := own_fr ho376 hF389 (hC375.apartM 0 1 rfl rfl)
      have ho392 := own_fr ho377 hF389 (hC375.apartM 1 1 rfl rfl)
      have ho393 := own_fr ho378 hF389 (hC375.apartM 2 1 rfl rfl)
      have hf395 := svcsIn.fr hf380 hF389 (hC375.apartM 4 1 rfl rfl)
      have ho399 := own_fr ho384 hF389 (hC375.apartM 8 1 rfl rfl)
      refine WLd rfl (QXn (hK386 _ _ ?_))
      refine WC.ret ?_
      refine (hret' _ _ (.agg #[.int .i64 0, .int .u32 ((rnL (V.leases.filter (pruneP V.now)) (outV V.snats dip) ((minL (oldL V (outV V.snats dip) dip)).first) dip V.now).vip), .int .i64 ((rnL (V.leases.filter (pruneP V.now)) (outV V.snats dip) ((minL (oldL V (outV V.snats dip) dip)).first) dip V.now).first), .int .u32 ((rnL (V.leases.filter (pruneP V.now)) (outV V.snats dip) ((minL (oldL V (outV V.snats dip) dip)).first) dip V.now).dip), .int .i64 ((rnL (V.leases.filter (pruneP V.now)) (outV V.snats dip) ((minL (oldL V (outV V.snats dip) dip)).first) dip V.now).exp)]) (fun a ha => ?_) ?_).1
      ·
       exact res_run ha ((ResR.cell rfl (run_ld (hC390.get 1 rfl) rfl) ResR.nil)) rfl
      clear hN hret hret' hK386 hK371 hK335 hK333 hK250 hK247 hK245 hK243 hK228 hK226 hK137 hK135 hK99 hK97 hK95 hK55 hK28 hK26 hK15 hK2
      have hE_ : lendE V (outV V.snats dip) dip = rnE (leaL V) (outV V.snats dip) (minL (oldL V (outV V.snats dip) dip)).first dip V.now := by unfold lendE; rw [if_neg (fun e_ => by rw [e_] at hon_; simp at hon_; omega)]
      have hL_ : lendL V (outV V.snats dip) dip = rnL (leaL V) (outV V.snats dip) (minL (oldL V (outV V.snats dip) dip)).first dip V.now := by unfold lendL; rw [if_neg (fun e_ => by rw [e_] at hon_; simp at hon_; omega)]
      have hX_ : lendX V (outV V.snats dip) dip = rnX (leaL V) (outV V.snats dip) (minL (oldL V (outV V.snats dip) dip)).first dip V.now := by unfold lendX; rw [if_neg (fun e_ => by rw [e_] at hon_; simp at hon_; omega)]
      have hz_ : rnE (leaL V) (outV V.snats dip) (minL (oldL V (outV V.snats dip) dip)).first dip V.now = 0 := (by have q_ := t337b; simpa [leaL] using q_)
      have hR_ : leaseR V dip = ⟨0, rnL (leaL V) (outV V.snats dip) (minL (oldL V (outV V.snats dip) dip)).first dip V.now⟩ := by unfold leaseR; rw [if_neg (by rw [t29]; decide)]; rw [hE_, if_pos hz_, hL_, hz_]
      have hV_ : leaseC V dip = { V with leases := rnX (leaL V) (outV V.snats dip) (minL (oldL V (outV V.snats dip) dip)).first dip V.now } := by unfold leaseC; rw [if_neg (by rw [t29]; decide)]; rw [hE_, if_pos hz_, hX_]
      rw [hR_, hV_]
      have hC403 := Cx.pickM hC390 [0] [0, 1, 2, 4, 8] (by decide) rfl rfl
      have hC404 := Cx_sw5 hC403
      obtain ⟨hT400, hfr401, hsub402⟩ := cfg_close (V := { V with leases := rnX (leaL V) (outV V.snats dip) (minL (oldL V (outV V.snats dip) dip)).first dip V.now }) (xs := xs) hC404 ho391 ho392 ho393 ho399 hf395 hvals
      exact ⟨_, rfl, hfr401, hT400, hsub402⟩
    ·
     have t248 : (n5 : Int) ≤ 0 := by have q_ := of_decide_eq_false t248b; omega
     refine WCf rfl ?_
     refine WC.drawC hC232 [g229] (by kernel_rfl) (fun w405 hF406 hC407 hS408 => ?_)
     have ho409 := own_fr ho234 hF406 (by simp)
     have ho410 := own_fr ho235 hF406 (by simp)
     have ho411 := own_fr ho236 hF406 (by simp)
     have hf413 := svcsIn.fr hf238 hF406 (by simp)
     have ho414 := own_fr ho239 hF406 (by simp)
     refine WDp (NPt hN) 0 104 (.pointer (some ⟨p, 0, none⟩)) (by kernel_rfl) (fun _ => by kernel_rfl) hS408 ?_
     refine WDp (NPt hN) 1 105 (.pointer (some ⟨p, 0, none⟩)) (by kernel_rfl) (fun _ => by kernel_rfl) hS408 ?_
     refine WDp (NPt hN) 2 106 (.pointer (some ⟨p, 0, none⟩)) (by kernel_rfl) (fun _ => by kernel_rfl) hS408 ?_
     refine WDp (NPt hN) 3 107 (.pointer (some ⟨p, 5, none⟩)) (by kernel_rfl) (fun _ => by kernel_rfl) hS408 ?_
     refine WDp (NPt hN) 5 109 (.int .u32 (outV V.snats dip)) (by kernel_rfl) (fun _ => by kernel_rfl) hS408 ?_
     refine WDp (NPt hN) 6 110 (.int .u32 dip) (by kernel_rfl) (fun _ => by kernel_rfl) hS408 ?_
     refine WDp (NPt hN) 7 111 (.pointer (some ⟨p, 0, none⟩)) (by kernel_rfl) (fun _ => by kernel_rfl) hS408 ?_
     refine WDp (NPt hN) 8 112 (.pointer (some ⟨p, 0, none⟩)) (by kernel_rfl) (fun _ => by kernel_rfl) hS408 ?_
     refine WDp (NPt hN) 9 113 (.pointer (some ⟨p, 0, none⟩)) (by kernel_rfl) (fun _ => by kernel_rfl) hS408 ?_
     refine WDp (NPt hN) 10 114 (.pointer (some ⟨p, 1, none⟩)) (by kernel_rfl) (fun _ => by kernel_rfl) hS408 ?_
     refine WDl (NPt hN) 4 29 (.pointer (some ⟨p, 5, none⟩)) (.slice A70 ((V.leases.filter (pruneP V.now)).length) c71) 108 (by kernel_rfl) (by kernel_rfl) (fun _ hS_ => run_ld (Fr.has hS_ (hC407.get 0 rfl) (by simpa using hC407.ne 0 2 rfl rfl (by decide))) rfl) hS408 ?_
     refine WD.sem 11 (Instr.loadAt 3 (.pointer (some ⟨p, 1, none⟩))) 115 (.int .i64 V.now) (by kernel_rfl) (by kernel_rfl) (run_ld (hC407.get 0 rfl) rfl) hS408 ?_
     refine WD.call 12 (by kernel_rfl) rfl rfl rfl rfl rfl (by kernel_rfl) (Grant_ct A70 c71 (V.leases.filter (pruneP V.now)) (outV V.snats dip) dip V.now w405 (own_rd ho414 encL_len (by decide)) (fun l_ h_ => hw.lok l_ (List.mem_filter.1 h_).1) (by omega) hvip_ hd (hg.frN hC407.fr (fun b_ off_ e_ => by cases e_; exact h0))) ?_
     rintro _ w419 ⟨v_, rfl, hF418, ho417⟩
     have hC420 := hC407.callN hF418 (own_ge ho417) (own_lt ho417)
     obtain ⟨A421, c422, rfl, hle423⟩ := own_form ho417
     have ho425 := own_base (b' := 0) ho417 (fun _ _ => Nat.zero_le _)
     have hS426 := hS408.trans hF418 (by simp)
     refine ⟨_, rfl, hS426, ?_⟩
     have ho427 := own_fr ho409 hF418 (by simp)
     have ho428 := own_fr ho410 hF418 (by simp)
     have ho429 := own_fr ho411 hF418 (by simp)
     have hf431 := svcsIn.fr hf413 hF418 (by simp)
     have ho432 := own_fr ho414 hF418 (by simp)
     refine WDp (NPt hN) 13 103 (.tuple #[.slice A421 ((grX (V.leases.filter (pruneP V.now)) (outV V.snats dip) dip V.now).length) c422, .agg #[.int .u32 ((grL (V.leases.filter (pruneP V.now)) (outV V.snats dip) dip V.now).vip), .int .i64 ((grL (V.leases.filter (pruneP V.now)) (outV V.snats dip) dip V.now).first), .int .u32 ((grL (V.leases.filter (pruneP V.now)) (outV V.snats dip) dip V.now).dip), .int .i64 ((grL (V.leases.filter (pruneP V.now)) (outV V.snats dip) dip V.now).exp)], errV 73 (grE (V.leases.filter (pruneP V.now)) (outV V.snats dip) dip V.now)]) (by kernel_rfl) (fun _ => by kernel_rfl) hS426 ?_
     refine WDp (NPt hN) 14 117 (.slice A421 ((grX (V.leases.filter (pruneP V.now)) (outV V.snats dip) dip V.now).length) c422) (by kernel_rfl) (fun _ => by kernel_rfl) hS426 ?_
     refine WDp (NPt hN) 15 118 (.agg #[.int .u32 ((grL (V.leases.filter (pruneP V.now)) (outV V.snats dip) dip V.now).vip), .int .i64 ((grL (V.leases.filter (pruneP V.now)) (outV V.snats dip) dip V.now).first), .int .u32 ((grL (V.leases.filter (pruneP V.now)) (outV V.snats dip) dip V.now).dip), .int .i64 ((grL (V.leases.filter (pruneP V.now)) (outV V.snats dip) dip V.now).exp)]) (by kernel_rfl) (fun _ => by kernel_rfl) hS426 ?_
     refine WDp (NPt hN) 16 119 (errV 73 (grE (V.leases.filter (pruneP V.now)) (outV V.snats dip) dip V.now)) (by kernel_rfl) (fun _ => by kernel_rfl) hS426 ?_
     refine WDp (NPt hN) 17 10 (.slice A421 ((grX (V.leases.filter (pruneP V.now)) (outV V.snats dip) dip V.now).length) c422) (by kernel_rfl) (fun _ => by kernel_rfl) hS426 ?_
     obtain ⟨w436, hr437, hF438, hC439⟩ := sto_run (c' := #[.int .u32 ((grL (V.leases.filter (pruneP V.now)) (outV V.snats dip) dip V.now).vip), .int .i64 ((grL (V.leases.filter (pruneP V.now)) (outV V.snats dip) dip V.now).first), .int .u32 ((grL (V.leases.filter (pruneP V.now)) (outV V.snats dip) dip V.now).dip), .int .i64 ((grL (V.leases.filter (pruneP V.now)) (outV V.snats dip) dip V.now).exp)]) Tryd.prog hC420 2 43 g229 0 (.agg #[.int .u32 ((grL (V.leases.filter (pruneP V.now)) (outV V.snats dip) dip V.now).vip), .int .i64 ((grL (V.leases.filter (pruneP V.now)) (outV V.snats dip) dip V.now).first), .int .u32 ((grL (V.leases.filter (pruneP V.now)) (outV V.snats dip) dip V.now).dip), .int .i64 ((grL (V.leases.filter (pruneP V.now)) (outV V.snats dip) dip V.now).exp)]) rfl (by kernel_rfl)
     have hS440 := hS426.trans hF438 (by first | (simp; done) | (simp [*]; done) | (have q_ := hS426.size; simp; omega))
     refine WD.semU 18 (Instr.storeAt 43 (.pointer (some ⟨g229, 0, none⟩)) (.agg #[.int .u32 ((grL (V.leases.filter (pruneP V.now)) (outV V.snats dip) dip V.now).vip), .int .i64 ((grL (V.leases.filter (pruneP V.now)) (outV V.snats dip) dip V.now).first), .int .u32 ((grL (V.leases.filter (pruneP V.now)) (outV V.snats dip) dip V.now).dip), .int .i64 ((grL (V.leases.filter (pruneP V.now)) (outV V.snats dip) dip V.now).exp)])) (by kernel_rfl) (by kernel_rfl) hr437 hS440 ?_
     have ho441 := own_fr ho427 hF438 (hC420.apartM 0 2 rfl rfl)
     have ho442 := own_fr ho428 hF438 (hC420.apartM 1 2 rfl rfl)
     have ho443 := own_fr ho429 hF438 (hC420.apartM 2 2 rfl rfl)
     have hf445 := svcsIn.fr hf431 hF438 (hC420.apartM 4 2 rfl rfl)
     have ho446 := own_fr ho432 hF438 (hC420.apartM 5 2 rfl rfl)
     have ho449 := own_fr ho425 hF438 (hC420.apartM 8 2 rfl rfl)
     refine WDp (NPt hN) 19 12 (errV 73 (grE (V.leases.filter (pruneP V.now)) (outV V.snats dip) dip V.now)) (by kernel_rfl) (fun _ => by kernel_rfl) hS440 ?_
     refine WD.done (by kernel_rfl) ?_
     refine QXn (hK245 _ _ ?_)
     refine WCs (fun K450 hK451 => ?_)
     refine WCs (fun K452 hK453 => ?_)
     refine WCg (WLr 1 [(120, errV 73 (grE (V.leases.filter (pruneP V.now)) (outV V.snats dip) dip V.now))] (fun _ => by kernel_rfl) ?_)
     have hr454 : ∀ w_, Sem.run Tryd.prog (do eqGuard .neq 38 (Operand.tmp 120) (Operand.const (.nilIface)) (errV 73 (grE (V.leases.filter (pruneP V.now)) (outV V.snats dip) dip V.now)) (.nilIface); binOp .neq 38 (errV 73 (grE (V.leases.filter (pruneP V.now)) (outV V.snats dip) dip V.now)) (.nilIface)) w_ = .ok (.bool (!(decide (grE (V.leases.filter (pruneP V.now)) (outV V.snats dip) dip V.now = 0)))) w_ := fun w_ => (err_neq _ (grE (V.leases.filter (pruneP V.now)) (outV V.snats dip) dip V.now) (decide (grE (V.leases.filter (pruneP V.now)) (outV V.snats dip) dip V.now = 0)) (by rfl) _)
     refine WL.sem (do eqGuard .neq 38 (Operand.tmp 120) (Operand.const (.nilIface)) (errV 73 (grE (V.leases.filter (pruneP V.now)) (outV V.snats dip) dip V.now)) (.nilIface); binOp .neq 38 (errV 73 (grE (V.leases.filter (pruneP V.now)) (outV V.snats dip) dip V.now)) (.nilIface)) 121 (.bool (!(decide (grE (V.leases.filter (pruneP V.now)) (outV V.snats dip) dip V.now = 0)))) (by kernel_rfl) (hr454 _) ?_
     refine WLd rfl (QXn (hK453 _ _ ?_))
     refine WCa 121 (!(decide (grE (V.leases.filter (pruneP V.now)) (outV V.snats dip) dip V.now = 0))) rfl (fun t455b => ?_) (fun t455b => ?_)
     ·
      have t455 : (decide (grE (V.leases.filter (pruneP V.now)) (outV V.snats dip) dip V.now = 0)) = false := by first | (simpa only [Bool.not_eq_true', Bool.not_eq_false'] using t455b) | simpa using t455b
      refine WCt rfl ?_
      refine WCs (fun K456 hK457 => ?_)
      refine WCg (WLr 1 [(122, errV 73 (grE (V.leases.filter (pruneP V.now)) (outV V.snats dip) dip V.now))] (fun _ => by kernel_rfl) ?_)
      refine WLc rfl rfl rfl rfl rfl (by kernel_rfl) (result_ct (grE (V.leases.filter (pruneP V.now)) (outV V.snats dip) dip V.now) w436) ?_
      rintro _ w459 ⟨rfl, hF458⟩
      refine ⟨_, rfl, ?_⟩
      have hC460 := hC439.call hF458
      have ho461 := own_fr ho441 hF458 (by simp)
      have ho462 := own_fr ho442 hF458 (by simp)
      have ho463 := own_fr ho443 hF458 (by simp)
      have hf465 := svcsIn.fr hf445 hF458 (by simp)
      have ho466 := own_fr ho446 hF458 (by simp)
      refine WLs (c' := #[.int .i64 (grE (V.leases.filter (pruneP V.now)) (outV V.snats dip) dip V.now), .int .u32 0, .int .i64 0, .int .u32 0, .int .i64 0]) hC460 1 47 g3 0 (.agg #[.int .i64 (grE (V.leases.filter (pruneP V.now)) (outV V.snats dip) dip V.now), .int .u32 0, .int .i64 0, .int .u32 0, .int .i64 0]) (by kernel_rfl) rfl (by kernel_rfl) (fun w470 hF472 hC473 => ?_)
      have ho474 := own_fr ho461 hF472 (hC460.apartM 0 1 rfl rfl)
      have ho475 := own_fr ho462 hF472 (hC460.apartM 1 1 rfl rfl)
      have ho476 := own_fr ho463 hF472 (hC460.apartM 2 1 rfl rfl)
      have hf478 := svcsIn.fr hf465 hF472 (hC460.apartM 4 1 rfl rfl)
      have ho479 := own_fr ho466 hF472 (hC460.apartM 5 1 rfl rfl)
      refine WLd rfl (QXn (hK457 _ _ ?_))
      refine WC.ret ?_
      refine QXr ?_
      refine (hret' _ _ (.agg #[.int .i64 (grE (V.leases.filter (pruneP V.now)) (outV V.snats dip) dip V.now), .int .u32 0, .int .i64 0, .int .u32 0, .int .i64 0]) (fun a ha => ?_) ?_).1
      ·
       exact res_run ha ((ResR.cell rfl (run_ld (hC473.get 1 rfl) rfl) ResR.nil)) rfl
      clear hN hret hret' hK457 hK453 hK451 hK247 hK245 hK243 hK228 hK226 hK137 hK135 hK99 hK97 hK95 hK55 hK28 hK26 hK15 hK2
      have hE_ : lendE V (outV V.snats dip) dip = grE (leaL V) (outV V.snats dip) dip V.now := by unfold lendE; rw [if_pos (List.eq_nil_of_length_eq_zero (by omega))]
      have hL_ : lendL V (outV V.snats dip) dip = grL (leaL V) (outV V.snats dip) dip V.now := by unfold lendL; rw [if_pos (List.eq_nil_of_length_eq_zero (by omega))]
      have hX_ : lendX V (outV V.snats dip) dip = grX (leaL V) (outV V.snats dip) dip V.now := by unfold lendX; rw [if_pos (List.eq_nil_of_length_eq_zero (by omega))]
      have hz_ : ¬ grE (leaL V) (outV V.snats dip) dip V.now = 0 := (by have q_ := t455b; simpa [leaL] using q_)
      have hR_ : leaseR V dip = ⟨grE (leaL V) (outV V.snats dip) dip V.now, noL⟩ := by unfold leaseR; rw [if_neg (by rw [t29]; decide)]; rw [hE_, if_neg hz_]
      have hV_ : leaseC V dip = { V with leases := leaL V } := by unfold leaseC; rw [if_neg (by rw [t29]; decide)]; rw [hE_, if_neg hz_]
      rw [hR_, hV_]
      have hC486 := Cx.pickM hC473 [0] [0, 1, 2, 4, 5] (by decide) rfl rfl
      have hC487 := Cx_sw5 hC486
      obtain ⟨hT483, hfr484, hsub485⟩ := cfg_close (V := { V with leases := leaL V }) (xs := xs) hC487 ho474 ho475 ho476 ho479 hf478 hvals
      exact ⟨_, rfl, hfr484, hT483, hsub485⟩
     ·
      have t455 : (decide (grE (V.leases.filter (pruneP V.now)) (outV V.snats dip) dip V.now = 0)) = true := by first | (simpa only [Bool.not_eq_true', Bool.not_eq_false'] using t455b) | simpa using t455b
      refine WCf rfl (WC.skip (QXn (hK451 _ _ ?_)))
      refine WCs (fun K488 hK489 => ?_)
      refine WCg (WLr 5 [(128, .pointer (some ⟨p, 5, none⟩)), (127, .pointer (some ⟨p, 0, none⟩)), (126, .pointer (some ⟨p, 0, none⟩)), (125, .slice A421 ((grX (V.leases.filter (pruneP V.now)) (outV V.snats dip) dip V.now).length) c422), (124, .pointer (some ⟨p, 0, none⟩))] (fun _ => by kernel_rfl) ?_)
      refine WLs (c' := #[.int .i64 V.epoch, .int .i64 V.now, .slice AS xs.length cS, .slice AN V.snats.length cN, .slice AK V.sick.length cK, .slice A421 ((grX (V.leases.filter (pruneP V.now)) (outV V.snats dip) dip V.now).length) c422]) hC439 0 29 p 5 (.slice A421 ((grX (V.leases.filter (pruneP V.now)) (outV V.snats dip) dip V.now).length) c422) (by kernel_rfl) rfl (by kernel_rfl) (fun w490 hF492 hC493 => ?_)
      have ho494 := own_fr ho441 hF492 (hC439.apartM 0 0 rfl rfl)
      have ho495 := own_fr ho442 hF492 (hC439.apartM 1 0 rfl rfl)
      have ho496 := own_fr ho443 hF492 (hC439.apartM 2 0 rfl rfl)
      have hf498 := svcsIn.fr hf445 hF492 (hC439.apartM 4 0 rfl rfl)
      have ho502 := own_fr ho449 hF492 (hC439.apartM 8 0 rfl rfl)
      refine WLd rfl (QXn (hK489 _ _ ?_))
      refine WCs (fun K503 hK504 => ?_)
      refine WCg ?_
      refine WL.load 43 (.pointer (some ⟨g229, 0, none⟩)) (.agg #[.int .u32 ((grL (V.leases.filter (pruneP V.now)) (outV V.snats dip) dip V.now).vip), .int .i64 ((grL (V.leases.filter (pruneP V.now)) (outV V.snats dip) dip V.now).first), .int .u32 ((grL (V.leases.filter (pruneP V.now)) (outV V.snats dip) dip V.now).dip), .int .i64 ((grL (V.leases.filter (pruneP V.now)) (outV V.snats dip) dip V.now).exp)]) 129 (by kernel_rfl) (run_ld (hC493.get 2 rfl) rfl) ?_
      refine WLr 1 [(130, .agg #[.int .i64 0, .int .u32 ((grL (V.leases.filter (pruneP V.now)) (outV V.snats dip) dip V.now).vip), .int .i64 ((grL (V.leases.filter (pruneP V.now)) (outV V.snats dip) dip V.now).first), .int .u32 ((grL (V.leases.filter (pruneP V.now)) (outV V.snats dip) dip V.now).dip), .int .i64 ((grL (V.leases.filter (pruneP V.now)) (outV V.snats dip) dip V.now).exp)])] (fun _ => by kernel_rfl) ?_
      refine WLs (c' := #[.int .i64 0, .int .u32 ((grL (V.leases.filter (pruneP V.now)) (outV V.snats dip) dip V.now).vip), .int .i64 ((grL (V.leases.filter (pruneP V.now)) (outV V.snats dip) dip V.now).first), .int .u32 ((grL (V.leases.filter (pruneP V.now)) (outV V.snats dip) dip V.now).dip), .int .i64 ((grL (V.leases.filter (pruneP V.now)) (outV V.snats dip) dip V.now).exp)]) hC493 1 47 g3 0 (.agg #[.int .i64 0, .int .u32 ((grL (V.leases.filter (pruneP V.now)) (outV V.snats dip) dip V.now).vip), .int .i64 ((grL (V.leases.filter (pruneP V.now)) (outV V.snats dip) dip V.now).first), .int .u32 ((grL (V.leases.filter (pruneP V.now)) (outV V.snats dip) dip V.now).dip), .int .i64 ((grL (V.leases.filter (pruneP V.now)) (outV V.snats dip) dip V.now).exp)]) (by kernel_rfl) rfl (by kernel_rfl) (fun w505 hF507 hC508 => ?_)
      have ho509 := own_fr ho494 hF507 (hC493.apartM 0 1 rfl rfl)
      have ho510 := own_fr ho495 hF507 (hC493.apartM 1 1 rfl rfl)
      have ho511 := own_fr ho496 hF507 (hC493.apartM 2 1 rfl rfl)
      have hf513 := svcsIn.fr hf498 hF507 (hC493.apartM 4 1 rfl rfl)
      have ho517 := own_fr ho502 hF507 (hC493.apartM 8 1 rfl rfl)
      refine WLd rfl (QXn (hK504 _ _ ?_))
      refine WC.ret ?_
      refine (hret' _ _ (.agg #[.int .i64 0, .int .u32 ((grL (V.leases.filter (pruneP V.now)) (outV V.snats dip) dip V.now).vip), .int .i64 ((grL (V.leases.filter (pruneP V.now)) (outV V.snats dip) dip V.now).first), .int .u32 ((grL (V.leases.filter (pruneP V.now)) (outV V.snats dip) dip V.now).dip), .int .i64 ((grL (V.leases.filter (pruneP V.now)) (outV V.snats dip) dip V.now).exp)]) (fun a ha => ?_) ?_).1
      ·
       exact res_run ha ((ResR.cell rfl (run_ld (hC508.get 1 rfl) rfl) ResR.nil)) rfl
      clear hN hret hret' hK504 hK489 hK453 hK451 hK247 hK245 hK243 hK228 hK226 hK137 hK135 hK99 hK97 hK95 hK55 hK28 hK26 hK15 hK2
      have hE_ : lendE V (outV V.snats dip) dip = grE (leaL V) (outV V.snats dip) dip V.now := by unfold lendE; rw [if_pos (List.eq_nil_of_length_eq_zero (by omega))]
      have hL_ : lendL V (outV V.snats dip) dip = grL (leaL V) (outV V.snats dip) dip V.now := by unfold lendL; rw [if_pos (List.eq_nil_of_length_eq_zero (by omega))]
      have hX_ : lendX V (outV V.snats dip) dip = grX (leaL V) (outV V.snats dip) dip V.now := by unfold lendX; rw [if_pos (List.eq_nil_of_length_eq_zero (by omega))]
      have hz_ : grE (leaL V) (outV V.snats dip) dip V.now = 0 := (by have q_ := t455b; simpa [leaL] using q_)
      have hR_ : leaseR V dip = ⟨0, grL (leaL V) (outV V.snats dip) dip V.now⟩ := by unfold leaseR; rw [if_neg (by rw [t29]; decide)]; rw [hE_, if_pos hz_, hL_, hz_]
      have hV_ : leaseC V dip = { V with leases := grX (leaL V) (outV V.snats dip) dip V.now } := by unfold leaseC; rw [if_neg (by rw [t29]; decide)]; rw [hE_, if_pos hz_, hX_]
      rw [hR_, hV_]
      have hC521 := Cx.pickM hC508 [0] [0, 1, 2, 4, 8] (by decide) rfl rfl
      have hC522 := Cx_sw5 hC521
      obtain ⟨hT518, hfr519, hsub520⟩ := cfg_close (V := { V with leases := grX (leaL V) (outV V.snats dip) dip V.now }) (xs := xs) hC522 ho509 ho510 ho511 ho517 hf513 hvals
      exact ⟨_, rfl, hfr519, hT518, hsub520⟩
  ·
   refine WO.sem 10 (Instr.loadAt 3 (.pointer (some ⟨p, 1, none⟩))) 37 (.int .i64 V.now) (by kernel_rfl) (by kernel_rfl) (run_ld (hC58.get 0 rfl) rfl) hS59 ?_
   refine WD.sem 5 (Instr.loadAt 29 (.pointer (some ⟨p, 5, none⟩))) 32 (.slice AL V.leases.length cL) (by kernel_rfl) (by kernel_rfl) (run_ld (hC58.get 0 rfl) rfl) hS59 ?_
   refine WD.call 11 (by kernel_rfl) rfl rfl rfl rfl rfl (by kernel_rfl) (Prune_ct AL cL V.leases V.now w56 (own_rd ho63 encL_len (by decide)) hw.lok (by first | omega | simp)) ?_
   rintro _ w525 ⟨v_, rfl, hF524, ho523⟩
   have hC526 := hC58.callN hF524 (own_ge ho523) (own_lt ho523)
   obtain ⟨A527, c528, rfl, hle529⟩ := own_form ho523
   have ho531 := own_base (b' := 0) ho523 (fun _ _ => Nat.zero_le _)
   have hS532 := hS59.trans hF524 (by simp)
   refine ⟨_, rfl, hS532, ?_⟩
   have ho533 := own_fr ho60 hF524 (by simp)
   have ho534 := own_fr ho61 hF524 (by simp)
   have ho535 := own_fr ho62 hF524 (by simp)
   have ho536 := own_fr ho63 hF524 (by simp)
   have hf537 := svcsIn.fr hf64 hF524 (by simp)
   have hf538 := hf65.trans hF524 (by simp)
   refine WDp (NPt hN) 12 39 (.pointer (some ⟨p, 0, none⟩)) (by kernel_rfl) (fun _ => by kernel_rfl) hS532 ?_
   refine WDp (NPt hN) 13 40 (.pointer (some ⟨p, 0, none⟩)) (by kernel_rfl) (fun _ => by kernel_rfl) hS532 ?_
   refine WDp (NPt hN) 14 41 (.pointer (some ⟨p, 5, none⟩)) (by kernel_rfl) (fun _ => by kernel_rfl) hS532 ?_
   obtain ⟨w540, hr541, hF542, hC543⟩ := sto_run (c' := #[.int .i64 V.epoch, .int .i64 V.now, .slice AS xs.length cS, .slice AN V.snats.length cN, .slice AK V.sick.length cK, .slice A527 ((V.leases.filter (pruneP V.now)).length) c528]) Tryd.prog hC526 0 29 p 5 (.slice A527 ((V.leases.filter (pruneP V.now)).length) c528) rfl (by kernel_rfl)
   have hS544 := hS532.trans hF542 (by first | (simp; done) | (simp [*]; done) | (have q_ := hS532.size; simp; omega))
   refine WD.semU 15 (Instr.storeAt 29 (.pointer (some ⟨p, 5, none⟩)) (.slice A527 ((V.leases.filter (pruneP V.now)).length) c528)) (by kernel_rfl) (by kernel_rfl) hr541 hS544 ?_
   have ho545 := own_fr ho533 hF542 (hC526.apartM 0 0 rfl rfl)
   have ho546 := own_fr ho534 hF542 (hC526.apartM 1 0 rfl rfl)
   have ho547 := own_fr ho535 hF542 (hC526.apartM 2 0 rfl rfl)
   have ho548 := own_fr ho536 hF542 (hC526.apartM 3 0 rfl rfl)
   have hf549 := svcsIn.fr hf537 hF542 (hC526.apartM 4 0 rfl rfl)
   have ho550 := own_fr ho531 hF542 (hC526.apartM 5 0 rfl rfl)
   refine WD.done (by kernel_rfl) ?_
   refine QXn (hK55 _ _ ?_)
   refine WCs (fun K551 hK552 => ?_)
   refine WCg (WLr 1 [(7, .slice none 0 0)] (fun _ => by kernel_rfl) (WLd rfl (QXn (hK552 _ _ ?_))))
   refine WCs (fun K553 hK554 => ?_)
   refine WCs (fun K555 hK556 => ?_)
   refine WC.drawC hC543 [] (by kernel_rfl) (fun w557 hF558 hC559 hS560 => ?_)
   have ho561 := own_fr ho545 hF558 (by simp)
   have ho562 := own_fr ho546 hF558 (by simp)
   have ho563 := own_fr ho547 hF558 (by simp)
   have ho564 := own_fr ho548 hF558 (by simp)
   have hf565 := svcsIn.fr hf549 hF558 (by simp)
   have ho566 := own_fr ho550 hF558 (by simp)
   refine WDp (NPt (NPt hN)) 0 42 (.pointer (some ⟨p, 0, none⟩)) (by kernel_rfl) (fun _ => by kernel_rfl) hS560 ?_
   refine WDp (NPt (NPt hN)) 1 43 (.pointer (some ⟨p, 0, none⟩)) (by kernel_rfl) (fun _ => by kernel_rfl) hS560 ?_
   refine WDp (NPt (NPt hN)) 2 44 (.pointer (some ⟨p, 0, none⟩)) (by kernel_rfl) (fun _ => by kernel_rfl) hS560 ?_
   refine WDp (NPt (NPt hN)) 3 45 (.pointer (some ⟨p, 5, none⟩)) (by kernel_rfl) (fun _ => by kernel_rfl) hS560 ?_
   refine WDp (NPt (NPt hN)) 5 47 (.int .u32 dip) (by kernel_rfl) (fun _ => by kernel_rfl) hS560 ?_
   refine WDp (NPt (NPt hN)) 6 48 (.pointer (some ⟨p, 0, none⟩)) (by kernel_rfl) (fun _ => by kernel_rfl) hS560 ?_
   refine WDp (NPt (NPt hN)) 7 49 (.pointer (some ⟨p, 0, none⟩)) (by kernel_rfl) (fun _ => by kernel_rfl) hS560 ?_
   refine WDp (NPt (NPt hN)) 8 50 (.pointer (some ⟨p, 0, none⟩)) (by kernel_rfl) (fun _ => by kernel_rfl) hS560 ?_
   refine WDp (NPt (NPt hN)) 9 51 (.pointer (some ⟨p, 1, none⟩)) (by kernel_rfl) (fun _ => by kernel_rfl) hS560 ?_
   refine WDp (NPt (NPt hN)) 13 55 (.int .i64 0) (by kernel_rfl) (fun _ => by kernel_rfl) hS560 ?_
   refine WDl (NPt (NPt hN)) 4 29 (.pointer (some ⟨p, 5, none⟩)) (.slice A527 ((V.leases.filter (pruneP V.now)).length) c528) 46 (by kernel_rfl) (by kernel_rfl) (fun _ hS_ => run_ld (Fr.has hS_ (hC559.get 0 rfl) (by simp)) rfl) hS560 ?_
   refine WDl (NPt (NPt hN)) 10 3 (.pointer (some ⟨p, 1, none⟩)) (.int .i64 V.now) 52 (by kernel_rfl) (by kernel_rfl) (fun _ hS_ => run_ld (Fr.has hS_ (hC559.get 0 rfl) (by simp)) rfl) hS560 ?_
   refine WD.call 11 (by kernel_rfl) rfl rfl rfl rfl rfl (by kernel_rfl) (Of_ct A527 c528 (V.leases.filter (pruneP V.now)) dip V.now w557 (own_rd ho566 encL_len (by decide)) (fun l_ h_ => hw.lok l_ (List.mem_filter.1 h_).1) (by first | omega | simp)) ?_
   rintro _ w569 ⟨v_, rfl, hF568, ho567⟩
   have hC570 := hC559.callN hF568 (own_ge ho567) (own_lt ho567)
   obtain ⟨A571, c572, rfl, hle573⟩ := own_form ho567
   have ho575 := own_base (b' := 0) ho567 (fun _ _ => Nat.zero_le _)
   have hS576 := hS560.trans hF568 (by simp)
   refine ⟨_, rfl, hS576, ?_⟩
   have ho577 := own_fr ho561 hF568 (by simp)
   have ho578 := own_fr ho562 hF568 (by simp)
   have ho579 := own_fr ho563 hF568 (by simp)
   have ho580 := own_fr ho564 hF568 (by simp)
   have hf581 := svcsIn.fr hf565 hF568 (by simp)
   have ho582 := own_fr ho566 hF568 (by simp)
   refine WDp (NPt (NPt hN)) 12 54 (.int .i64 (((V.leases.filter (pruneP V.now)).filter (ofP dip V.now)).length : Int)) (by kernel_rfl) (fun _ => by kernel_rfl) hS576 ?_
   refine WD.done (by kernel_rfl) ?_
   refine QXn (hK556 _ _ ?_)
   refine WC.block ?_
   have hC584 := hC570.addNil
   have hol_ := own_count encL_len (by decide) ho575
   have holb_ : ((V.leases.filter (pruneP V.now)).filter (ofP dip V.now)).length ≤ n := Nat.le_trans (List.length_filter_le _ _) (Nat.le_trans (List.length_filter_le _ _) hw.ln)
   refine WC.loop (fun m_ E_ w_ => ∃ (k : Nat) (A5 : Option Addr) (n5 c5 : Nat), m_ = ((V.leases.filter (pruneP V.now)).filter (ofP dip V.now)).length - k ∧ E_ = [(0, .pointer (some ⟨p, 0, none⟩)), (1, .int .u32 dip), (4, .pointer (some ⟨g3, 0, none⟩)), (5, .int .u32 (outV V.snats dip)), (6, .bool (outB V.snats dip)), (7, .slice A5 n5 c5), (53, .slice A571 (((V.leases.filter (pruneP V.now)).filter (ofP dip V.now)).length) c572), (54, .int .i64 (((V.leases.filter (pruneP V.now)).filter (ofP dip V.now)).length : Int)), (55, .int .i64 (k : Int))] ∧ Cx w F w_ [(p, .cells #[.int .i64 V.epoch, .int .i64 V.now, .slice AS xs.length cS, .slice AN V.snats.length cN, .slice AK V.sick.length cK, .slice A527 ((V.leases.filter (pruneP V.now)).length) c528] 69 (0, 0)), (g3, .cells #[.int .i64 0, .int .u32 0, .int .i64 0, .int .u32 0, .int .i64 0] 47)] [blk (.slice AS xs.length cS), blk (.slice AN V.snats.length cN), blk (.slice AK V.sick.length cK), blk (.slice AL V.leases.length cL), R, blk (.slice A527 ((V.leases.filter (pruneP V.now)).length) c528), blk (.slice A571 (((V.leases.filter (pruneP V.now)).filter (ofP dip V.now)).length) c572), blk (.slice A5 n5 c5)] ∧ World.ownsRow w_ 0 52 4 (.slice AS xs.length cS) xs.length (xs.flatMap cellsS) ∧ World.ownsRow w_ 0 54 2 (.slice AN V.snats.length cN) V.snats.length (V.snats.flatMap cellsN) ∧ World.ownsRow w_ 0 41 1 (.slice AK V.sick.length cK) V.sick.length (V.sick.flatMap (Go.Tw.encI .u32)) ∧ World.ownsRow w_ 0 43 4 (.slice AL V.leases.length cL) V.leases.length (V.leases.flatMap encL) ∧ svcsIn w_ R xs ∧ World.ownsRow w_ 0 43 4 (.slice A527 ((V.leases.filter (pruneP V.now)).length) c528) ((V.leases.filter (pruneP V.now)).length) ((V.leases.filter (pruneP V.now)).flatMap encL) ∧ World.ownsRow w_ 0 43 4 (.slice A571 (((V.leases.filter (pruneP V.now)).filter (ofP dip V.now)).length) c572) (((V.leases.filter (pruneP V.now)).filter (ofP dip V.now)).length) (((V.leases.filter (pruneP V.now)).filter (ofP dip V.now)).flatMap encL) ∧ World.ownsRow w_ 0 43 4 (.slice A5 n5 c5) n5 (((((V.leases.filter (pruneP V.now)).filter (ofP dip V.now)).take k).filter (oldP (outV V.snats dip) V.now)).flatMap encL) ∧ (k ≤ ((V.leases.filter (pruneP V.now)).filter (ofP dip V.now)).length)) ⟨_, _, ⟨0, none, 0, 0, rfl, rfl, hC584, ho577, ho578, ho579, ho580, hf581, ho582, ho575, own_nil _ _ _ _, Nat.zero_le _⟩, sub_of ⟨rfl, rfl, rfl, rfl, rfl, rfl, rfl, rfl, rfl, trivial⟩⟩ (fun m588 E_ w589 K585 hK586 hI587 => ?_)
   obtain ⟨k, A5, n5, c5, rfl, rfl, hC590, S_m588, N_m588, K_m588, L_m588, in_m588, row539_m588, row583_m588, hold, hk⟩ := hI587
   have hon_ := own_count encL_len (by decide) hold
   have honb_ : ((((V.leases.filter (pruneP V.now)).filter (ofP dip V.now)).take k).filter (oldP (outV V.snats dip) V.now)).length ≤ n := Nat.le_trans (List.length_filter_le _ _) (Nat.le_trans (by rw [List.length_take]; exact Nat.min_le_right _ _) holb_)
   refine WCs (fun K591 hK592 => ?_)
   refine WCg (WLr 1 [(56, .bool (decide ((k : Int) < (((V.leases.filter (pruneP V.now)).filter (ofP dip V.now)).length : Int))))] (fun _ => by kernel_rfl) (WLd rfl (QXn (hK592 _ _ ?_))))
   refine WCs (fun K593 hK594 => ?_)
   refine WCa 56 (decide ((k : Int) < (((V.leases.filter (pruneP V.now)).filter (ofP dip V.now)).length : Int))) rfl (fun t595b => ?_) (fun t595b => ?_)
   ·
    have t595 : (k : Int) < (((V.leases.filter (pruneP V.now)).filter (ofP dip V.now)).length : Int) := by have q_ := of_decide_eq_true t595b; omega
    refine WCt rfl ?_
    refine WC.skip ?_
    refine QXn (hK594 _ _ ?_)
    refine WCs (fun K596 hK597 => ?_)
    refine WC.block ?_
    refine WCs (fun K598 hK599 => ?_)
    refine WCg ?_
    have hn604 := own_count encL_len (by decide) row583_m588
    obtain ⟨e600, he601⟩ := get_some (xs := ((V.leases.filter (pruneP V.now)).filter (ofP dip V.now))) (i := k) (by omega)
    obtain ⟨b602, hA603⟩ := own_addr (by decide) encL_len row583_m588 he601
    refine WLi A571 (((V.leases.filter (pruneP V.now)).filter (ofP dip V.now)).length) c572 57 .i64 (k : Int) b602 0 k 4 (by kernel_rfl) hA603 (by omega) (by omega) (k * 4) (by first | (simp; done) | omega) ?_
    refine WL.load 43 (.pointer (some ⟨b602, k * 4, none⟩)) (.agg #[.int .u32 e600.vip, .int .i64 e600.first, .int .u32 e600.dip, .int .i64 e600.exp]) 58 (by kernel_rfl) (run_rdN (l := [.int .u32 e600.vip, .int .i64 e600.first, .int .u32 e600.dip, .int .i64 e600.exp]) rfl rfl (fun j u hu => by have hq_ := Rd.cell (own_rd row583_m588 encL_len (by decide)) hA603 he601 j u hu; simpa [Nat.add_assoc] using hq_)) ?_
    obtain ⟨hm1_, hm2_⟩ := List.mem_filter.1 (List.mem_of_getElem? he601)
    obtain ⟨hm3_, hm4_⟩ := in_leaL hm1_
    obtain ⟨hq1_, hq2_, hq3_, hq4_, hq5_, hq6_, hq7_, hq8_⟩ := hw.lok _ hm3_
    refine WL.newM hC590 (fun b => .pointer (some ⟨b, 0, none⟩)) (.cells #[.int .u32 0, .int .i64 0, .int .u32 0, .int .i64 0] 43) 9 (fun _ => by kernel_rfl) (fun g605 w606 hb609 hF607 hC608 => ?_)
    have ho610 := own_fr S_m588 hF607 (by simp)
    have ho611 := own_fr N_m588 hF607 (by simp)
    have ho612 := own_fr K_m588 hF607 (by simp)
    have ho613 := own_fr L_m588 hF607 (by simp)
    have hf614 := svcsIn.fr in_m588 hF607 (by simp)
    have ho615 := own_fr row539_m588 hF607 (by simp)
    have ho616 := own_fr row583_m588 hF607 (by simp)
    have ho617 := own_fr hold hF607 (by simp)
    refine WLs (c' := #[.int .u32 e600.vip, .int .i64 e600.first, .int .u32 e600.dip, .int .i64 e600.exp]) hC608 2 43 g605 0 (.agg #[.int .u32 e600.vip, .int .i64 e600.first, .int .u32 e600.dip, .int .i64 e600.exp]) (by kernel_rfl) rfl (by kernel_rfl) (fun w618 hF620 hC621 => ?_)
    have ho622 := own_fr ho610 hF620 (hC608.apartM 0 2 rfl rfl)
    have ho623 := own_fr ho611 hF620 (hC608.apartM 1 2 rfl rfl)
    have ho624 := own_fr ho612 hF620 (hC608.apartM 2 2 rfl rfl)
    have ho625 := own_fr ho613 hF620 (hC608.apartM 3 2 rfl rfl)
    have hf626 := svcsIn.fr hf614 hF620 (hC608.apartM 4 2 rfl rfl)
    have ho627 := own_fr ho615 hF620 (hC608.apartM 5 2 rfl rfl)
    have ho628 := own_fr ho616 hF620 (hC608.apartM 6 2 rfl rfl)
    have ho629 := own_fr ho617 hF620 (hC608.apartM 7 2 rfl rfl)
    refine WLd rfl (QXn (hK599 _ _ ?_))
    refine WCs (fun K630 hK631 => ?_)
    refine WC.drawC hC621 [] (by kernel_rfl) (fun w632 hF633 hC634 hS635 => ?_)
    have ho636 := own_fr ho622 hF633 (by simp)
    have ho637 := own_fr ho623 hF633 (by simp)
    have ho638 := own_fr ho624 hF633 (by simp)
    have ho639 := own_fr ho625 hF633 (by simp)
    have hf640 := svcsIn.fr hf626 hF633 (by simp)
    have ho641 := own_fr ho627 hF633 (by simp)
    have ho642 := own_fr ho628 hF633 (by simp)
    have ho643 := own_fr ho629 hF633 (by simp)
    refine WDp (NPt (NPb (NPt (NPt (NPb (NPt hN)))))) 0 59 (.pointer (some ⟨g605, 0, none⟩)) (by kernel_rfl) (fun _ => by kernel_rfl) hS635 ?_
    refine WDp (NPt (NPb (NPt (NPt (NPb (NPt hN)))))) 2 61 (.int .u32 (outV V.snats dip)) (by kernel_rfl) (fun _ => by kernel_rfl) hS635 ?_
    refine WDl (NPt (NPb (NPt (NPt (NPb (NPt hN)))))) 1 41 (.pointer (some ⟨g605, 0, none⟩)) (.int .u32 e600.vip) 60 (by kernel_rfl) (by kernel_rfl) (fun _ hS_ => run_ld (Fr.has hS_ (hC634.get 2 rfl) (by simp)) rfl) hS635 ?_
    refine WDp (NPt (NPb (NPt (NPt (NPb (NPt hN)))))) 3 62 (.bool (e600.vip == (outV V.snats dip))) (by kernel_rfl) (fun _ => by kernel_rfl) hS635 ?_
    refine WDp (NPt (NPb (NPt (NPt (NPb (NPt hN)))))) 4 63 (.bool (e600.vip == (outV V.snats dip))) (by kernel_rfl) (fun _ => by kernel_rfl) hS635 ?_
    refine WDa 63 (e600.vip == (outV V.snats dip)) rfl (fun t644b => ?_) (fun t644b => ?_)
    ·
     have t644 : e600.vip = (outV V.snats dip) := by simpa using t644b
     refine WDp (NPt (NPb (NPt (NPt (NPb (NPt hN)))))) 5 64 (.pointer (some ⟨g605, 3, none⟩)) (by kernel_rfl) (fun _ => by kernel_rfl) hS635 ?_
     refine WDp (NPt (NPb (NPt (NPt (NPb (NPt hN)))))) 7 66 (.pointer (some ⟨p, 0, none⟩)) (by kernel_rfl) (fun _ => by kernel_rfl) hS635 ?_
     refine WDp (NPt (NPb (NPt (NPt (NPb (NPt hN)))))) 8 67 (.pointer (some ⟨p, 0, none⟩)) (by kernel_rfl) (fun _ => by kernel_rfl) hS635 ?_
     refine WDp (NPt (NPb (NPt (NPt (NPb (NPt hN)))))) 9 68 (.pointer (some ⟨p, 0, none⟩)) (by kernel_rfl) (fun _ => by kernel_rfl) hS635 ?_
     refine WDp (NPt (NPb (NPt (NPt (NPb (NPt hN)))))) 10 69 (.pointer (some ⟨p, 1, none⟩)) (by kernel_rfl) (fun _ => by kernel_rfl) hS635 ?_
     refine WDl (NPt (NPb (NPt (NPt (NPb (NPt hN)))))) 6 3 (.pointer (some ⟨g605, 3, none⟩)) (.int .i64 e600.exp) 65 (by kernel_rfl) (by kernel_rfl) (fun _ hS_ => run_ld (Fr.has hS_ (hC634.get 2 rfl) (by simp)) rfl) hS635 ?_
     refine WDl (NPt (NPb (NPt (NPt (NPb (NPt hN)))))) 11 3 (.pointer (some ⟨p, 1, none⟩)) (.int .i64 V.now) 70 (by kernel_rfl) (by kernel_rfl) (fun _ hS_ => run_ld (Fr.has hS_ (hC634.get 0 rfl) (by simp)) rfl) hS635 ?_
     refine WDp (NPt (NPb (NPt (NPt (NPb (NPt hN)))))) 12 71 (.int .i64 (IntKind.i64.wrap (e600.exp - V.now))) (by kernel_rfl) (fun _ => by kernel_rfl) hS635 ?_
     refine WD.recast (show (.int .i64 (IntKind.i64.wrap (e600.exp - V.now)) : Value) = .int .i64 (e600.exp - V.now) from by rw [wrap_in_i64 (e600.exp - V.now) (by omega) (by omega)]) ?_
     refine WDp (NPt (NPb (NPt (NPt (NPb (NPt hN)))))) 13 72 (.bool (decide ((e600.exp - V.now) < 32))) (by kernel_rfl) (fun _ => by kernel_rfl) hS635 ?_
     refine WDp (NPt (NPb (NPt (NPt (NPb (NPt hN)))))) 14 73 (.bool (decide ((e600.exp - V.now) < 32))) (by kernel_rfl) (fun _ => by kernel_rfl) hS635 ?_
     refine WD.done (by kernel_rfl) ?_
     refine QXn (hK631 _ _ ?_)
     refine WCa 73 (decide ((e600.exp - V.now) < 32)) rfl (fun t645b => ?_) (fun t645b => ?_)
     ·
      have t645 : (e600.exp - V.now) < 32 := by have q_ := of_decide_eq_true t645b; omega
      refine WCt rfl ?_
      refine WCg (WLr 1 [(74, .slice A5 n5 c5)] (fun _ => by kernel_rfl) ?_)
      refine WL.load 43 (.pointer (some ⟨g605, 0, none⟩)) (.agg #[.int .u32 e600.vip, .int .i64 e600.first, .int .u32 e600.dip, .int .i64 e600.exp]) 75 (by kernel_rfl) (run_ld (hC634.get 2 rfl) rfl) ?_
      refine WL.newM hC634 (fun b => .slice (some ⟨b, 0, none⟩) 1 1) (.cells #[.int .u32 e600.vip, .int .i64 e600.first, .int .u32 e600.dip, .int .i64 e600.exp] 43) 76 (fun _ => by kernel_rfl) (fun g646 w647 hb650 hF648 hC649 => ?_)
      have ho651 := own_fr ho636 hF648 (by simp)
      have ho652 := own_fr ho637 hF648 (by simp)
      have ho653 := own_fr ho638 hF648 (by simp)
      have ho654 := own_fr ho639 hF648 (by simp)
      have hf655 := svcsIn.fr hf640 hF648 (by simp)
      have ho656 := own_fr ho641 hF648 (by simp)
      have ho657 := own_fr ho642 hF648 (by simp)
      have ho658 := own_fr ho643 hF648 (by simp)
      obtain ⟨v659, w660, hr661, ho662, hF663, hC664, hnil665, hsub666⟩ := app_run Tryd.prog hC649 7 (v := .slice A5 n5 c5) rfl 29 29 43 4 32 n5 1 1 (some ⟨g646, 0, none⟩) rfl ho658 [.int .u32 e600.vip, .int .i64 e600.first, .int .u32 e600.dip, .int .i64 e600.exp] rfl (srcOk.blk 1 (hC649.get 3 rfl)) rfl (by simp only [maxLen]; omega) (by omega)
      have ho670 := own_snoc (enc := encL) (ys := ((((V.leases.filter (pruneP V.now)).filter (ofP dip V.now)).take k).filter (oldP (outV V.snats dip) V.now))) e600 ho662
      obtain ⟨A667, c668, rfl, hle669⟩ := own_form ho670
      refine WL.sem (Builtin.append_ #[29, 29] 29 #[.slice A5 n5 c5, .slice (some ⟨g646, 0, none⟩) 1 1]) 77 (.slice A667 (n5 + 1) c668) (by kernel_rfl) hr661 ?_
      have ho671 := own_fr ho651 hF663 (hC649.disj 0 7 rfl rfl (by decide))
      have ho672 := own_fr ho652 hF663 (hC649.disj 1 7 rfl rfl (by decide))
      have ho673 := own_fr ho653 hF663 (hC649.disj 2 7 rfl rfl (by decide))
      have ho674 := own_fr ho654 hF663 (hC649.disj 3 7 rfl rfl (by decide))
      have hf675 := svcsIn.fr hf655 hF663 (hC649.disj 4 7 rfl rfl (by decide))
      have ho676 := own_fr ho656 hF663 (hC649.disj 5 7 rfl rfl (by decide))
      have ho677 := own_fr ho657 hF663 (hC649.disj 6 7 rfl rfl (by decide))
      refine WLr 1 [(7, .slice A667 (n5 + 1) c668)] (fun _ => by kernel_rfl) ?_
      refine WLd rfl ?_
      refine QXb ?_
      refine QXn (hK597 _ _ ?_)
      refine WCg (WLr 1 [(78, .int .i64 (IntKind.i64.wrap ((k : Int) + 1)))] (fun _ => by kernel_rfl) ?_)
      refine WLt (show (.int .i64 (IntKind.i64.wrap ((k : Int) + 1)) : Value) = .int .i64 ((k : Int) + 1) from by rw [wrap_in_i64 ((k : Int) + 1) (by omega) (by omega)]) ?_
      refine WLr 1 [(55, .int .i64 ((k : Int) + 1))] (fun _ => by kernel_rfl) ?_
      refine WLd rfl ?_
      refine QXn ?_
      have hC678 := hC664.pick [0, 1] [0, 1, 2, 3, 4, 5, 6, 7] rfl rfl
      refine fun a_ ha_ => hK586 _ _ _ ?_ ⟨k + 1, A667, n5 + 1, c668, rfl, rfl, hC678, ho671, ho672, ho673, ho674, hf675, ho676, ho677, by rw [filt_snoc (oldP (outV V.snats dip) V.now) he601, if_pos (by simp [oldP, t29, t29b, t595, t595b, t644, t644b, t645, t645b])]; exact ho670, by omega⟩ a_ (ha_.weaken (sub_of ⟨rfl, rfl, rfl, rfl, rfl, rfl, rfl, rfl, rfl, trivial⟩))
      omega
     ·
      have t645 : (32 : Int) ≤ (e600.exp - V.now) := by have q_ := of_decide_eq_false t645b; omega
      refine WCf rfl (WC.skip ?_)
      refine QXb ?_
      refine QXn (hK597 _ _ ?_)
      refine WCg (WLr 1 [(78, .int .i64 (IntKind.i64.wrap ((k : Int) + 1)))] (fun _ => by kernel_rfl) ?_)
      refine WLt (show (.int .i64 (IntKind.i64.wrap ((k : Int) + 1)) : Value) = .int .i64 ((k : Int) + 1) from by rw [wrap_in_i64 ((k : Int) + 1) (by omega) (by omega)]) ?_
      refine WLr 1 [(55, .int .i64 ((k : Int) + 1))] (fun _ => by kernel_rfl) ?_
      refine WLd rfl ?_
      refine QXn ?_
      have hC679 := hC634.pick [0, 1] [0, 1, 2, 3, 4, 5, 6, 7] rfl rfl
      refine fun a_ ha_ => hK586 _ _ _ ?_ ⟨k + 1, A5, n5, c5, rfl, rfl, hC679, ho636, ho637, ho638, ho639, hf640, ho641, ho642, by rw [filt_snoc (oldP (outV V.snats dip) V.now) he601, if_neg (by simp [oldP, t29, t29b, t595, t595b, t644, t644b, t645, t645b] <;> omega), List.append_nil]; exact ho643, by omega⟩ a_ (ha_.weaken (sub_of ⟨rfl, rfl, rfl, rfl, rfl, rfl, rfl, rfl, rfl, trivial⟩))
      omega
    ·
     have t644 : ¬ (e600.vip = (outV V.snats dip)) := by simpa using t644b
     refine WDp (NPt (NPb (NPt (NPt (NPb (NPt hN)))))) 5 64 (undef) (by kernel_rfl) (fun _ => by kernel_rfl) hS635 ?_
     refine WDp (NPt (NPb (NPt (NPt (NPb (NPt hN)))))) 6 65 (undef) (by kernel_rfl) (fun _ => by kernel_rfl) hS635 ?_
     refine WDp (NPt (NPb (NPt (NPt (NPb (NPt hN)))))) 7 66 (undef) (by kernel_rfl) (fun _ => by kernel_rfl) hS635 ?_
     refine WDp (NPt (NPb (NPt (NPt (NPb (NPt hN)))))) 8 67 (undef) (by kernel_rfl) (fun _ => by kernel_rfl) hS635 ?_
     refine WDp (NPt (NPb (NPt (NPt (NPb (NPt hN)))))) 9 68 (undef) (by kernel_rfl) (fun _ => by kernel_rfl) hS635 ?_
     refine WDp (NPt (NPb (NPt (NPt (NPb (NPt hN)))))) 10 69 (undef) (by kernel_rfl) (fun _ => by kernel_rfl) hS635 ?_
     refine WDp (NPt (NPb (NPt (NPt (NPb (NPt hN)))))) 11 70 (undef) (by kernel_rfl) (fun _ => by kernel_rfl) hS635 ?_
     refine WDp (NPt (NPb (NPt (NPt (NPb (NPt hN)))))) 12 71 (undef) (by kernel_rfl) (fun _ => by kernel_rfl) hS635 ?_
     refine WDp (NPt (NPb (NPt (NPt (NPb (NPt hN)))))) 13 72 (undef) (by kernel_rfl) (fun _ => by kernel_rfl) hS635 ?_
     refine WDp (NPt (NPb (NPt (NPt (NPb (NPt hN)))))) 14 73 (.bool false) (by kernel_rfl) (fun _ => by kernel_rfl) hS635 ?_
     refine WD.done (by kernel_rfl) ?_
     refine QXn (hK631 _ _ ?_)
     refine WCf rfl (WC.skip ?_)
     refine QXb ?_
     refine QXn (hK597 _ _ ?_)
     refine WCg (WLr 1 [(78, .int .i64 (IntKind.i64.wrap ((k : Int) + 1)))] (fun _ => by kernel_rfl) ?_)
     refine WLt (show (.int .i64 (IntKind.i64.wrap ((k : Int) + 1)) : Value) = .int .i64 ((k : Int) + 1) from by rw [wrap_in_i64 ((k : Int) + 1) (by omega) (by omega)]) ?_
     refine WLr 1 [(55, .int .i64 ((k : Int) + 1))] (fun _ => by kernel_rfl) ?_
     refine WLd rfl ?_
     refine QXn ?_
     have hC680 := hC634.pick [0, 1] [0, 1, 2, 3, 4, 5, 6, 7] rfl rfl
     refine fun a_ ha_ => hK586 _ _ _ ?_ ⟨k + 1, A5, n5, c5, rfl, rfl, hC680, ho636, ho637, ho638, ho639, hf640, ho641, ho642, by rw [filt_snoc (oldP (outV V.snats dip) V.now) he601, if_neg (by simp [oldP, t29, t29b, t595, t595b, t644, t644b] <;> omega), List.append_nil]; exact ho643, by omega⟩ a_ (ha_.weaken (sub_of ⟨rfl, rfl, rfl, rfl, rfl, rfl, rfl, rfl, rfl, trivial⟩))
     omega
   ·
    have t595 : (((V.leases.filter (pruneP V.now)).filter (ofP dip V.now)).length : Int) ≤ (k : Int) := by have q_ := of_decide_eq_false t595b; omega
    refine WCf rfl ?_
    have hke_ : k = ((V.leases.filter (pruneP V.now)).filter (ofP dip V.now)).length := by omega
    have hold681 := hold
    rw [List.take_of_length_le (by omega)] at hold681 hon_ honb_
    have hfo_ : ((V.leases.filter (pruneP V.now)).filter (ofP dip V.now)).filter (oldP (outV V.snats dip) V.now) = (oldL V (outV V.snats dip) dip) := rfl
    rw [hfo_] at hold681 hon_ honb_
    skip
    refine WC.exit ?_
    refine QXe ?_
    refine QXe ?_
    refine QX.block_hit ?_
    refine QXn (hK554 _ _ ?_)
    refine WCs (fun K682 hK683 => ?_)
    refine WCg (WLr 1 [(10, .slice none 0 0)] (fun _ => by kernel_rfl) (WLd rfl (QXn (hK683 _ _ ?_))))
    refine WCs (fun K684 hK685 => ?_)
    refine WCg ?_
    refine WL.newM hC590 (fun b => .pointer (some ⟨b, 0, none⟩)) (.cells #[.int .u32 0, .int .i64 0, .int .u32 0, .int .i64 0] 43) 11 (fun _ => by kernel_rfl) (fun g686 w687 hb690 hF688 hC689 => ?_)
    have ho691 := own_fr S_m588 hF688 (by simp)
    have ho692 := own_fr N_m588 hF688 (by simp)
    have ho693 := own_fr K_m588 hF688 (by simp)
    have hf695 := svcsIn.fr in_m588 hF688 (by simp)
    have ho696 := own_fr row539_m588 hF688 (by simp)
    have ho698 := own_fr hold681 hF688 (by simp)
    refine WLd rfl (QXn (hK685 _ _ ?_))
    refine WCs (fun K699 hK700 => ?_)
    refine WCg (WLr 1 [(12, .nilIface)] (fun _ => by kernel_rfl) (WLd rfl (QXn (hK700 _ _ ?_))))
    refine WCs (fun K701 hK702 => ?_)
    refine WCs (fun K703 hK704 => ?_)
    refine WCg (WLr 3 [(81, .bool (decide ((n5 : Int) > 0))), (80, .int .i64 (n5 : Int)), (79, .slice A5 n5 c5)] (fun _ => by kernel_rfl) (WLd rfl (QXn (hK704 _ _ ?_))))
    refine WCa 81 (decide ((n5 : Int) > 0)) rfl (fun t705b => ?_) (fun t705b => ?_)
    ·
     have t705 : (0 : Int) < (n5 : Int) := by have q_ := of_decide_eq_true t705b; omega
     refine WCt rfl ?_
     refine WCs (fun K706 hK707 => ?_)
     refine WCg (WLr 1 [(82, .slice A5 n5 c5)] (fun _ => by kernel_rfl) ?_)
     have hmn_ := own_count encL_len (by decide) ho698
     refine WLc rfl rfl rfl rfl rfl (by kernel_rfl) (Min_n A5 n5 c5 (oldL V (outV V.snats dip) dip) w687 (own_rd ho698 encL_len (by decide)) hmn_ (by omega) (by omega)) ?_
     rintro _ w709 ⟨rfl, hF708⟩
     refine ⟨_, rfl, ?_⟩
     have hC710 := hC689.call hF708
     have ho711 := own_fr ho691 hF708 (by simp)
     have ho712 := own_fr ho692 hF708 (by simp)
     have ho713 := own_fr ho693 hF708 (by simp)
     have hf715 := svcsIn.fr hf695 hF708 (by simp)
     have ho716 := own_fr ho696 hF708 (by simp)
     refine WL.newM hC710 (fun b => .pointer (some ⟨b, 0, none⟩)) (.cells #[.int .u32 0, .int .i64 0, .int .u32 0, .int .i64 0] 43) 13 (fun _ => by kernel_rfl) (fun g719 w720 hb723 hF721 hC722 => ?_)
     have ho724 := own_fr ho711 hF721 (by simp)
     have ho725 := own_fr ho712 hF721 (by simp)
     have ho726 := own_fr ho713 hF721 (by simp)
     have hf728 := svcsIn.fr hf715 hF721 (by simp)
     have ho729 := own_fr ho716 hF721 (by simp)
     refine WLs (c' := #[.int .u32 ((minL (oldL V (outV V.snats dip) dip)).vip), .int .i64 ((minL (oldL V (outV V.snats dip) dip)).first), .int .u32 ((minL (oldL V (outV V.snats dip) dip)).dip), .int .i64 ((minL (oldL V (outV V.snats dip) dip)).exp)]) hC722 3 43 g719 0 (.agg #[.int .u32 ((minL (oldL V (outV V.snats dip) dip)).vip), .int .i64 ((minL (oldL V (outV V.snats dip) dip)).first), .int .u32 ((minL (oldL V (outV V.snats dip) dip)).dip), .int .i64 ((minL (oldL V (outV V.snats dip) dip)).exp)]) (by kernel_rfl) rfl (by kernel_rfl) (fun w732 hF734 hC735 => ?_)
     have ho736 := own_fr ho724 hF734 (hC722.apartM 0 3 rfl rfl)
     have ho737 := own_fr ho725 hF734 (hC722.apartM 1 3 rfl rfl)
     have ho738 := own_fr ho726 hF734 (hC722.apartM 2 3 rfl rfl)
     have hf740 := svcsIn.fr hf728 hF734 (hC722.apartM 4 3 rfl rfl)
     have ho741 := own_fr ho729 hF734 (hC722.apartM 5 3 rfl rfl)
     refine WLd rfl (QXn (hK707 _ _ ?_))
     refine WC.drawC hC735 [g686] (by kernel_rfl) (fun w744 hF745 hC746 hS747 => ?_)
     have ho748 := own_fr ho736 hF745 (by simp)
     have ho749 := own_fr ho737 hF745 (by simp)
     have ho750 := own_fr ho738 hF745 (by simp)
     have hf752 := svcsIn.fr hf740 hF745 (by simp)
     have ho753 := own_fr ho741 hF745 (by simp)
     refine WDp (NPt hN) 0 85 (.pointer (some ⟨p, 0, none⟩)) (by kernel_rfl) (fun _ => by kernel_rfl) hS747 ?_
     refine WDp (NPt hN) 1 86 (.pointer (some ⟨p, 0, none⟩)) (by kernel_rfl) (fun _ => by kernel_rfl) hS747 ?_
     refine WDp (NPt hN) 2 87 (.pointer (some ⟨p, 0, none⟩)) (by kernel_rfl) (fun _ => by kernel_rfl) hS747 ?_
     refine WDp (NPt hN) 3 88 (.pointer (some ⟨p, 5, none⟩)) (by kernel_rfl) (fun _ => by kernel_rfl) hS747 ?_
     refine WDp (NPt hN) 5 90 (.int .u32 (outV V.snats dip)) (by kernel_rfl) (fun _ => by kernel_rfl) hS747 ?_
     refine WDp (NPt hN) 6 91 (.pointer (some ⟨g719, 1, none⟩)) (by kernel_rfl) (fun _ => by kernel_rfl) hS747 ?_
     refine WDp (NPt hN) 8 93 (.int .u32 dip) (by kernel_rfl) (fun _ => by kernel_rfl) hS747 ?_
     refine WDp (NPt hN) 9 94 (.pointer (some ⟨p, 0, none⟩)) (by kernel_rfl) (fun _ => by kernel_rfl) hS747 ?_
     refine WDp (NPt hN) 10 95 (.pointer (some ⟨p, 0, none⟩)) (by kernel_rfl) (fun _ => by kernel_rfl) hS747 ?_
     refine WDp (NPt hN) 11 96 (.pointer (some ⟨p, 0, none⟩)) (by kernel_rfl) (fun _ => by kernel_rfl) hS747 ?_
     refine WDp (NPt hN) 12 97 (.pointer (some ⟨p, 1, none⟩)) (by kernel_rfl) (fun _ => by kernel_rfl) hS747 ?_
     refine WDl (NPt hN) 4 29 (.pointer (some ⟨p, 5, none⟩)) (.slice A527 ((V.leases.filter (pruneP V.now)).length) c528) 89 (by kernel_rfl) (by kernel_rfl) (fun _ hS_ => run_ld (Fr.has hS_ (hC746.get 0 rfl) (by simpa using hC746.ne 0 2 rfl rfl (by decide))) rfl) hS747 ?_
     refine WDl (NPt hN) 7 3 (.pointer (some ⟨g719, 1, none⟩)) (.int .i64 ((minL (oldL V (outV V.snats dip) dip)).first)) 92 (by kernel_rfl) (by kernel_rfl) (fun _ hS_ => run_ld (Fr.has hS_ (hC746.get 3 rfl) (by simpa using hC746.ne 3 2 rfl rfl (by decide))) rfl) hS747 ?_
     refine WD.sem 13 (Instr.loadAt 3 (.pointer (some ⟨p, 1, none⟩))) 98 (.int .i64 V.now) (by kernel_rfl) (by kernel_rfl) (run_ld (hC746.get 0 rfl) rfl) hS747 ?_
     refine WD.call 14 (by kernel_rfl) rfl rfl rfl rfl rfl (by kernel_rfl) (Renew_ct A527 c528 (V.leases.filter (pruneP V.now)) (outV V.snats dip) ((minL (oldL V (outV V.snats dip) dip)).first) dip V.now w744 (own_rd ho753 encL_len (by decide)) (fun l_ h_ => hw.lok l_ (List.mem_filter.1 h_).1) (by omega)) ?_
     rintro _ w758 ⟨v_, rfl, hF757, ho756⟩
     have hC759 := hC746.callN hF757 (own_ge ho756) (own_lt ho756)
     obtain ⟨A760, c761, rfl, hle762⟩ := own_form ho756
     have ho764 := own_base (b' := 0) ho756 (fun _ _ => Nat.zero_le _)
     have hS765 := hS747.trans hF757 (by simp)
     refine ⟨_, rfl, hS765, ?_⟩
     have ho766 := own_fr ho748 hF757 (by simp)
     have ho767 := own_fr ho749 hF757 (by simp)
     have ho768 := own_fr ho750 hF757 (by simp)
     have hf770 := svcsIn.fr hf752 hF757 (by simp)
     have ho771 := own_fr ho753 hF757 (by simp)
     refine WDp (NPt hN) 15 84 (.tuple #[.slice A760 ((rnX (V.leases.filter (pruneP V.now)) (outV V.snats dip) ((minL (oldL V (outV V.snats dip) dip)).first) dip V.now).length) c761, .agg #[.int .u32 ((rnL (V.leases.filter (pruneP V.now)) (outV V.snats dip) ((minL (oldL V (outV V.snats dip) dip)).first) dip V.now).vip), .int .i64 ((rnL (V.leases.filter (pruneP V.now)) (outV V.snats dip) ((minL (oldL V (outV V.snats dip) dip)).first) dip V.now).first), .int .u32 ((rnL (V.leases.filter (pruneP V.now)) (outV V.snats dip) ((minL (oldL V (outV V.snats dip) dip)).first) dip V.now).dip), .int .i64 ((rnL (V.leases.filter (pruneP V.now)) (outV V.snats dip) ((minL (oldL V (outV V.snats dip) dip)).first) dip V.now).exp)], errV 73 (rnE (V.leases.filter (pruneP V.now)) (outV V.snats dip) ((minL (oldL V (outV V.snats dip) dip)).first) dip V.now)]) (by kernel_rfl) (fun _ => by kernel_rfl) hS765 ?_
     refine WDp (NPt hN) 16 100 (.slice A760 ((rnX (V.leases.filter (pruneP V.now)) (outV V.snats dip) ((minL (oldL V (outV V.snats dip) dip)).first) dip V.now).length) c761) (by kernel_rfl) (fun _ => by kernel_rfl) hS765 ?_
     refine WDp (NPt hN) 17 101 (.agg #[.int .u32 ((rnL (V.leases.filter (pruneP V.now)) (outV V.snats dip) ((minL (oldL V (outV V.snats dip) dip)).first) dip V.now).vip), .int .i64 ((rnL (V.leases.filter (pruneP V.now)) (outV V.snats dip) ((minL (oldL V (outV V.snats dip) dip)).first) dip V.now).first), .int .u32 ((rnL (V.leases.filter (pruneP V.now)) (outV V.snats dip) ((minL (oldL V (outV V.snats dip) dip)).first) dip V.now).dip), .int .i64 ((rnL (V.leases.filter (pruneP V.now)) (outV V.snats dip) ((minL (oldL V (outV V.snats dip) dip)).first) dip V.now).exp)]) (by kernel_rfl) (fun _ => by kernel_rfl) hS765 ?_
     refine WDp (NPt hN) 18 102 (errV 73 (rnE (V.leases.filter (pruneP V.now)) (outV V.snats dip) ((minL (oldL V (outV V.snats dip) dip)).first) dip V.now)) (by kernel_rfl) (fun _ => by kernel_rfl) hS765 ?_
     refine WDp (NPt hN) 19 10 (.slice A760 ((rnX (V.leases.filter (pruneP V.now)) (outV V.snats dip) ((minL (oldL V (outV V.snats dip) dip)).first) dip V.now).length) c761) (by kernel_rfl) (fun _ => by kernel_rfl) hS765 ?_
     obtain ⟨w775, hr776, hF777, hC778⟩ := sto_run (c' := #[.int .u32 ((rnL (V.leases.filter (pruneP V.now)) (outV V.snats dip) ((minL (oldL V (outV V.snats dip) dip)).first) dip V.now).vip), .int .i64 ((rnL (V.leases.filter (pruneP V.now)) (outV V.snats dip) ((minL (oldL V (outV V.snats dip) dip)).first) dip V.now).first), .int .u32 ((rnL (V.leases.filter (pruneP V.now)) (outV V.snats dip) ((minL (oldL V (outV V.snats dip) dip)).first) dip V.now).dip), .int .i64 ((rnL (V.leases.filter (pruneP V.now)) (outV V.snats dip) ((minL (oldL V (outV V.snats dip) dip)).first) dip V.now).exp)]) Tryd.prog hC759 2 43 g686 0 (.agg #[.int .u32 ((rnL (V.leases.filter (pruneP V.now)) (outV V.snats dip) ((minL (oldL V (outV V.snats dip) dip)).first) dip V.now).vip), .int .i64 ((rnL (V.leases.filter (pruneP V.now)) (outV V.snats dip) ((minL (oldL V (outV V.snats dip) dip)).first) dip V.now).first), .int .u32 ((rnL (V.leases.filter (pruneP V.now)) (outV V.snats dip) ((minL (oldL V (outV V.snats dip) dip)).first) dip V.now).dip), .int .i64 ((rnL (V.leases.filter (pruneP V.now)) (outV V.snats dip) ((minL (oldL V (outV V.snats dip) dip)).first) dip V.now).exp)]) rfl (by kernel_rfl)
     have hS779 := hS765.trans hF777 (by first | (simp; done) | (simp [*]; done) | (have q_ := hS765.size; simp; omega))
     refine WD.semU 20 (Instr.storeAt 43 (.pointer (some ⟨g686, 0, none⟩)) (.agg #[.int .u32 ((rnL (V.leases.filter (pruneP V.now)) (outV V.snats dip) ((minL (oldL V (outV V.snats dip) dip)).first) dip V.now).vip), .int .i64 ((rnL (V.leases.filter (pruneP V.now)) (outV V.snats dip) ((minL (oldL V (outV V.snats dip) dip)).first) dip V.now).first), .int .u32 ((rnL (V.leases.filter (pruneP V.now)) (outV V.snats dip) ((minL (oldL V (outV V.snats dip) dip)).first) dip V.now).dip), .int .i64 ((rnL (V.leases.filter (pruneP V.now)) (outV V.snats dip) ((minL (oldL V (outV V.snats dip) dip)).first) dip V.now).exp)])) (by kernel_rfl) (by kernel_rfl) hr776 hS779 ?_
     have ho780 := own_fr ho766 hF777 (hC759.apartM 0 2 rfl rfl)
     have ho781 := own_fr ho767 hF777 (hC759.apartM 1 2 rfl rfl)
     have ho782 := own_fr ho768 hF777 (hC759.apartM 2 2 rfl rfl)
     have hf784 := svcsIn.fr hf770 hF777 (hC759.apartM 4 2 rfl rfl)
     have ho785 := own_fr ho771 hF777 (hC759.apartM 5 2 rfl rfl)
     have ho788 := own_fr ho764 hF777 (hC759.apartM 8 2 rfl rfl)
     refine WDp (NPt hN) 21 12 (errV 73 (rnE (V.leases.filter (pruneP V.now)) (outV V.snats dip) ((minL (oldL V (outV V.snats dip) dip)).first) dip V.now)) (by kernel_rfl) (fun _ => by kernel_rfl) hS779 ?_
     refine WD.done (by kernel_rfl) ?_
     refine QXn (hK702 _ _ ?_)
     refine WCs (fun K789 hK790 => ?_)
     refine WCs (fun K791 hK792 => ?_)
     refine WCg (WLr 1 [(120, errV 73 (rnE (V.leases.filter (pruneP V.now)) (outV V.snats dip) ((minL (oldL V (outV V.snats dip) dip)).first) dip V.now))] (fun _ => by kernel_rfl) ?_)
     have hr793 : ∀ w_, Sem.run Tryd.prog (do eqGuard .neq 38 (Operand.tmp 120) (Operand.const (.nilIface)) (errV 73 (rnE (V.leases.filter (pruneP V.now)) (outV V.snats dip) ((minL (oldL V (outV V.snats dip) dip)).first) dip V.now)) (.nilIface); binOp .neq 38 (errV 73 (rnE (V.leases.filter (pruneP V.now)) (outV V.snats dip) ((minL (oldL V (outV V.snats dip) dip)).first) dip V.now)) (.nilIface)) w_ = .ok (.bool (!(decide (rnE (V.leases.filter (pruneP V.now)) (outV V.snats dip) ((minL (oldL V (outV V.snats dip) dip)).first) dip V.now = 0)))) w_ := fun w_ => (err_neq _ (rnE (V.leases.filter (pruneP V.now)) (outV V.snats dip) ((minL (oldL V (outV V.snats dip) dip)).first) dip V.now) (decide (rnE (V.leases.filter (pruneP V.now)) (outV V.snats dip) ((minL (oldL V (outV V.snats dip) dip)).first) dip V.now = 0)) (by rfl) _)
     refine WL.sem (do eqGuard .neq 38 (Operand.tmp 120) (Operand.const (.nilIface)) (errV 73 (rnE (V.leases.filter (pruneP V.now)) (outV V.snats dip) ((minL (oldL V (outV V.snats dip) dip)).first) dip V.now)) (.nilIface); binOp .neq 38 (errV 73 (rnE (V.leases.filter (pruneP V.now)) (outV V.snats dip) ((minL (oldL V (outV V.snats dip) dip)).first) dip V.now)) (.nilIface)) 121 (.bool (!(decide (rnE (V.leases.filter (pruneP V.now)) (outV V.snats dip) ((minL (oldL V (outV V.snats dip) dip)).first) dip V.now = 0)))) (by kernel_rfl) (hr793 _) ?_
     refine WLd rfl (QXn (hK792 _ _ ?_))
     refine WCa 121 (!(decide (rnE (V.leases.filter (pruneP V.now)) (outV V.snats dip) ((minL (oldL V (outV V.snats dip) dip)).first) dip V.now = 0))) rfl (fun t794b => ?_) (fun t794b => ?_)
     ·
      have t794 : (decide (rnE (V.leases.filter (pruneP V.now)) (outV V.snats dip) ((minL (oldL V (outV V.snats dip) dip)).first) dip V.now = 0)) = false := by first | (simpa only [Bool.not_eq_true', Bool.not_eq_false'] using t794b) | simpa using t794b
      refine WCt rfl ?_
      refine WCs (fun K795 hK796 => ?_)
      refine WCg (WLr 1 [(122, errV 73 (rnE (V.leases.filter (pruneP V.now)) (outV V.snats dip) ((minL (oldL V (outV V.snats dip) dip)).first) dip V.now))] (fun _ => by kernel_rfl) ?_)
      refine WLc rfl rfl rfl rfl rfl (by kernel_rfl) (result_ct (rnE (V.leases.filter (pruneP V.now)) (outV V.snats dip) ((minL (oldL V (outV V.snats dip) dip)).first) dip V.now) w775) ?_
      rintro _ w798 ⟨rfl, hF797⟩
      refine ⟨_, rfl, ?_⟩
      have hC799 := hC778.call hF797
      have ho800 := own_fr ho780 hF797 (by simp)
      have ho801 := own_fr ho781 hF797 (by simp)
      have ho802 := own_fr ho782 hF797 (by simp)
      have hf804 := svcsIn.fr hf784 hF797 (by simp)
      have ho805 := own_fr ho785 hF797 (by simp)
      refine WLs (c' := #[.int .i64 (rnE (V.leases.filter (pruneP V.now)) (outV V.snats dip) ((minL (oldL V (outV V.snats dip) dip)).first) dip V.now), .int .u32 0, .int .i64 0, .int .u32 0, .int .i64 0]) hC799 1 47 g3 0 (.agg #[.int .i64 (rnE (V.leases.filter (pruneP V.now)) (outV V.snats dip) ((minL (oldL V (outV V.snats dip) dip)).first) dip V.now), .int .u32 0, .int .i64 0, .int .u32 0, .int .i64 0]) (by kernel_rfl) rfl (by kernel_rfl) (fun w809 hF811 hC812 => ?_)
      have ho813 := own_fr ho800 hF811 (hC799.apartM 0 1 rfl rfl)
      have ho814 := own_fr ho801 hF811 (hC799.apartM 1 1 rfl rfl)
      have ho815 := own_fr ho802 hF811 (hC799.apartM 2 1 rfl rfl)
      have hf817 := svcsIn.fr hf804 hF811 (hC799.apartM 4 1 rfl rfl)
      have ho818 := own_fr ho805 hF811 (hC799.apartM 5 1 rfl rfl)
      refine WLd rfl (QXn (hK796 _ _ ?_))
      refine WC.ret ?_
      refine QXr ?_
      refine (hret' _ _ (.agg #[.int .i64 (rnE (V.leases.filter (pruneP V.now)) (outV V.snats dip) ((minL (oldL V (outV V.snats dip) dip)).first) dip V.now), .int .u32 0, .int .i64 0, .int .u32 0, .int .i64 0]) (fun a ha => ?_) ?_).1
      ·
       exact res_run ha ((ResR.cell rfl (run_ld (hC812.get 1 rfl) rfl) ResR.nil)) rfl
      clear hN hret hret' hK796 hK792 hK790 hK707 hK704 hK702 hK700 hK685 hK683 hK594 hK592 hK556 hK554 hK552 hK55 hK28 hK26 hK15 hK2
      have hE_ : lendE V (outV V.snats dip) dip = rnE (leaL V) (outV V.snats dip) (minL (oldL V (outV V.snats dip) dip)).first dip V.now := by unfold lendE; rw [if_neg (fun e_ => by rw [e_] at hon_; simp at hon_; omega)]
      have hL_ : lendL V (outV V.snats dip) dip = rnL (leaL V) (outV V.snats dip) (minL (oldL V (outV V.snats dip) dip)).first dip V.now := by unfold lendL; rw [if_neg (fun e_ => by rw [e_] at hon_; simp at hon_; omega)]
      have hX_ : lendX V (outV V.snats dip) dip = rnX (leaL V) (outV V.snats dip) (minL (oldL V (outV V.snats dip) dip)).first dip V.now := by unfold lendX; rw [if_neg (fun e_ => by rw [e_] at hon_; simp at hon_; omega)]
      have hz_ : ¬ rnE (leaL V) (outV V.snats dip) (minL (oldL V (outV V.snats dip) dip)).first dip V.now = 0 := (by have q_ := t794b; simpa [leaL] using q_)
      have hR_ : leaseR V dip = ⟨rnE (leaL V) (outV V.snats dip) (minL (oldL V (outV V.snats dip) dip)).first dip V.now, noL⟩ := by unfold leaseR; rw [if_neg (by rw [t29]; decide)]; rw [hE_, if_neg hz_]
      have hV_ : leaseC V dip = { V with leases := leaL V } := by unfold leaseC; rw [if_neg (by rw [t29]; decide)]; rw [hE_, if_neg hz_]
      rw [hR_, hV_]
      have hC825 := Cx.pickM hC812 [0] [0, 1, 2, 4, 5] (by decide) rfl rfl
      have hC826 := Cx_sw5 hC825
      obtain ⟨hT822, hfr823, hsub824⟩ := cfg_close (V := { V with leases := leaL V }) (xs := xs) hC826 ho813 ho814 ho815 ho818 hf817 hvals
      exact ⟨_, rfl, hfr823, hT822, hsub824⟩
     ·
      have t794 : (decide (rnE (V.leases.filter (pruneP V.now)) (outV V.snats dip) ((minL (oldL V (outV V.snats dip) dip)).first) dip V.now = 0)) = true := by first | (simpa only [Bool.not_eq_true', Bool.not_eq_false'] using t794b) | simpa using t794b
      refine WCf rfl (WC.skip (QXn (hK790 _ _ ?_)))
      refine WCs (fun K827 hK828 => ?_)
      refine WCg (WLr 5 [(128, .pointer (some ⟨p, 5, none⟩)), (127, .pointer (some ⟨p, 0, none⟩)), (126, .pointer (some ⟨p, 0, none⟩)), (125, .slice A760 ((rnX (V.leases.filter (pruneP V.now)) (outV V.snats dip) ((minL (oldL V (outV V.snats dip) dip)).first) dip V.now).length) c761), (124, .pointer (some ⟨p, 0, none⟩))] (fun _ => by kernel_rfl) ?_)
      refine WLs (c' := #[.int .i64 V.epoch, .int .i64 V.now, .slice AS xs.length cS, .slice AN V.snats.length cN, .slice AK V.sick.length cK, .slice A760 ((rnX (V.leases.filter (pruneP V.now)) (outV V.snats dip) ((minL (oldL V (outV V.snats dip) dip)).first) dip V.now).length) c761]) hC778 0 29 p 5 (.slice A760 ((rnX (V.leases.filter (pruneP V.now)) (outV V.snats dip) ((minL (oldL V (outV V.snats dip) dip)).first) dip V.now).length) c761) (by kernel_rfl) rfl (by kernel_rfl) (fun w829 hF831 hC832 => ?_)
      have ho833 := own_fr ho780 hF831 (hC778.apartM 0 0 rfl rfl)
      have ho834 := own_fr ho781 hF831 (hC778.apartM 1 0 rfl rfl)
      have ho835 := own_fr ho782 hF831 (hC778.apartM 2 0 rfl rfl)
      have hf837 := svcsIn.fr hf784 hF831 (hC778.apartM 4 0 rfl rfl)
      have ho841 := own_fr ho788 hF831 (hC778.apartM 8 0 rfl rfl)
      refine WLd rfl (QXn (hK828 _ _ ?_))
      refine WCs (fun K842 hK843 => ?_)
      refine WCg ?_
      refine WL.load 43 (.pointer (some ⟨g686, 0, none⟩)) (.agg #[.int .u32 ((rnL (V.leases.filter (pruneP V.now)) (outV V.snats dip) ((minL (oldL V (outV V.snats dip) dip)).first) dip V.now).vip), .int .i64 ((rnL (V.leases.filter (pruneP V.now)) (outV V.snats dip) ((minL (oldL V (outV V.snats dip) dip)).first) dip V.now).first), .int .u32 ((rnL (V.leases.filter (pruneP V.now)) (outV V.snats dip) ((minL (oldL V (outV V.snats dip) dip)).first) dip V.now).dip), .int .i64 ((rnL (V.leases.filter (pruneP V.now)) (outV V.snats dip) ((minL (oldL V (outV V.snats dip) dip)).first) dip V.now).exp)]) 129 (by kernel_rfl) (run_ld (hC832.get 2 rfl) rfl) ?_
      refine WLr 1 [(130, .agg #[.int .i64 0, .int .u32 ((rnL (V.leases.filter (pruneP V.now)) (outV V.snats dip) ((minL (oldL V (outV V.snats dip) dip)).first) dip V.now).vip), .int .i64 ((rnL (V.leases.filter (pruneP V.now)) (outV V.snats dip) ((minL (oldL V (outV V.snats dip) dip)).first) dip V.now).first), .int .u32 ((rnL (V.leases.filter (pruneP V.now)) (outV V.snats dip) ((minL (oldL V (outV V.snats dip) dip)).first) dip V.now).dip), .int .i64 ((rnL (V.leases.filter (pruneP V.now)) (outV V.snats dip) ((minL (oldL V (outV V.snats dip) dip)).first) dip V.now).exp)])] (fun _ => by kernel_rfl) ?_
      refine WLs (c' := #[.int .i64 0, .int .u32 ((rnL (V.leases.filter (pruneP V.now)) (outV V.snats dip) ((minL (oldL V (outV V.snats dip) dip)).first) dip V.now).vip), .int .i64 ((rnL (V.leases.filter (pruneP V.now)) (outV V.snats dip) ((minL (oldL V (outV V.snats dip) dip)).first) dip V.now).first), .int .u32 ((rnL (V.leases.filter (pruneP V.now)) (outV V.snats dip) ((minL (oldL V (outV V.snats dip) dip)).first) dip V.now).dip), .int .i64 ((rnL (V.leases.filter (pruneP V.now)) (outV V.snats dip) ((minL (oldL V (outV V.snats dip) dip)).first) dip V.now).exp)]) hC832 1 47 g3 0 (.agg #[.int .i64 0, .int .u32 ((rnL (V.leases.filter (pruneP V.now)) (outV V.snats dip) ((minL (oldL V (outV V.snats dip) dip)).first) dip V.now).vip), .int .i64 ((rnL (V.leases.filter (pruneP V.now)) (outV V.snats dip) ((minL (oldL V (outV V.snats dip) dip)).first) dip V.now).first), .int .u32 ((rnL (V.leases.filter (pruneP V.now)) (outV V.snats dip) ((minL (oldL V (outV V.snats dip) dip)).first) dip V.now).dip), .int .i64 ((rnL (V.leases.filter (pruneP V.now)) (outV V.snats dip) ((minL (oldL V (outV V.snats dip) dip)).first) dip V.now).exp)]) (by kernel_rfl) rfl (by kernel_rfl) (fun w844 hF846 hC847 => ?_)
      have ho848 := own_fr ho833 hF846 (hC832.apartM 0 1 rfl rfl)
      have ho849 := own_fr ho834 hF846 (hC832.apartM 1 1 rfl rfl)
      have ho850 := own_fr ho835 hF846 (hC832.apartM 2 1 rfl rfl)
      have hf852 := svcsIn.fr hf837 hF846 (hC832.apartM 4 1 rfl rfl)
      have ho856 := own_fr ho841 hF846 (hC832.apartM 8 1 rfl rfl)
      refine WLd rfl (QXn (hK843 _ _ ?_))
      refine WC.ret ?_
      refine (hret' _ _ (.agg #[.int .i64 0, .int .u32 ((rnL (V.leases.filter (pruneP V.now)) (outV V.snats dip) ((minL (oldL V (outV V.snats dip) dip)).first) dip V.now).vip), .int .i64 ((rnL (V.leases.filter (pruneP V.now)) (outV V.snats dip) ((minL (oldL V (outV V.snats dip) dip)).first) dip V.now).first), .int .u32 ((rnL (V.leases.filter (pruneP V.now)) (outV V.snats dip) ((minL (oldL V (outV V.snats dip) dip)).first) dip V.now).dip), .int .i64 ((rnL (V.leases.filter (pruneP V.now)) (outV V.snats dip) ((minL (oldL V (outV V.snats dip) dip)).first) dip V.now).exp)]) (fun a ha => ?_) ?_).1
      ·
       exact res_run ha ((ResR.cell rfl (run_ld (hC847.get 1 rfl) rfl) ResR.nil)) rfl
      clear hN hret hret' hK843 hK828 hK792 hK790 hK707 hK704 hK702 hK700 hK685 hK683 hK594 hK592 hK556 hK554 hK552 hK55 hK28 hK26 hK15 hK2
      have hE_ : lendE V (outV V.snats dip) dip = rnE (leaL V) (outV V.snats dip) (minL (oldL V (outV V.snats dip) dip)).first dip V.now := by unfold lendE; rw [if_neg (fun e_ => by rw [e_] at hon_; simp at hon_; omega)]
      have hL_ : lendL V (outV V.snats dip) dip = rnL (leaL V) (outV V.snats dip) (minL (oldL V (outV V.snats dip) dip)).first dip V.now := by unfold lendL; rw [if_neg (fun e_ => by rw [e_] at hon_; simp at hon_; omega)]
      have hX_ : lendX V (outV V.snats dip) dip = rnX (leaL V) (outV V.snats dip) (minL (oldL V (outV V.snats dip) dip)).first dip V.now := by unfold lendX; rw [if_neg (fun e_ => by rw [e_] at hon_; simp at hon_; omega)]
      have hz_ : rnE (leaL V) (outV V.snats dip) (minL (oldL V (outV V.snats dip) dip)).first dip V.now = 0 := (by have q_ := t794b; simpa [leaL] using q_)
      have hR_ : leaseR V dip = ⟨0, rnL (leaL V) (outV V.snats dip) (minL (oldL V (outV V.snats dip) dip)).first dip V.now⟩ := by unfold leaseR; rw [if_neg (by rw [t29]; decide)]; rw [hE_, if_pos hz_, hL_, hz_]
      have hV_ : leaseC V dip = { V with leases := rnX (leaL V) (outV V.snats dip) (minL (oldL V (outV V.snats dip) dip)).first dip V.now } := by unfold leaseC; rw [if_neg (by rw [t29]; decide)]; rw [hE_, if_pos hz_, hX_]
      rw [hR_, hV_]
      have hC860 := Cx.pickM hC847 [0] [0, 1, 2, 4, 8] (by decide) rfl rfl
      have hC861 := Cx_sw5 hC860
      obtain ⟨hT857, hfr858, hsub859⟩ := cfg_close (V := { V with leases := rnX (leaL V) (outV V.snats dip) (minL (oldL V (outV V.snats dip) dip)).first dip V.now }) (xs := xs) hC861 ho848 ho849 ho850 ho856 hf852 hvals
      exact ⟨_, rfl, hfr858, hT857, hsub859⟩
    ·
     have t705 : (n5 : Int) ≤ 0 := by have q_ := of_decide_eq_false t705b; omega
     refine WCf rfl ?_
     refine WC.drawC hC689 [g686] (by kernel_rfl) (fun w862 hF863 hC864 hS865 => ?_)
     have ho866 := own_fr ho691 hF863 (by simp)
     have ho867 := own_fr ho692 hF863 (by simp)
     have ho868 := own_fr ho693 hF863 (by simp)
     have hf870 := svcsIn.fr hf695 hF863 (by simp)
     have ho871 := own_fr ho696 hF863 (by simp)
     refine WDp (NPt hN) 0 104 (.pointer (some ⟨p, 0, none⟩)) (by kernel_rfl) (fun _ => by kernel_rfl) hS865 ?_
     refine WDp (NPt hN) 1 105 (.pointer (some ⟨p, 0, none⟩)) (by kernel_rfl) (fun _ => by kernel_rfl) hS865 ?_
     refine WDp (NPt hN) 2 106 (.pointer (some ⟨p, 0, none⟩)) (by kernel_rfl) (fun _ => by kernel_rfl) hS865 ?_
     refine WDp (NPt hN) 3 107 (.pointer (some ⟨p, 5, none⟩)) (by kernel_rfl) (fun _ => by kernel_rfl) hS865 ?_
     refine WDp (NPt hN) 5 109 (.int .u32 (outV V.snats dip)) (by kernel_rfl) (fun _ => by kernel_rfl) hS865 ?_
     refine WDp (NPt hN) 6 110 (.int .u32 dip) (by kernel_rfl) (fun _ => by kernel_rfl) hS865 ?_
     refine WDp (NPt hN) 7 111 (.pointer (some ⟨p, 0, none⟩)) (by kernel_rfl) (fun _ => by kernel_rfl) hS865 ?_
     refine WDp (NPt hN) 8 112 (.pointer (some ⟨p, 0, none⟩)) (by kernel_rfl) (fun _ => by kernel_rfl) hS865 ?_
     refine WDp (NPt hN) 9 113 (.pointer (some ⟨p, 0, none⟩)) (by kernel_rfl) (fun _ => by kernel_rfl) hS865 ?_
     refine WDp (NPt hN) 10 114 (.pointer (some ⟨p, 1, none⟩)) (by kernel_rfl) (fun _ => by kernel_rfl) hS865 ?_
     refine WDl (NPt hN) 4 29 (.pointer (some ⟨p, 5, none⟩)) (.slice A527 ((V.leases.filter (pruneP V.now)).length) c528) 108 (by kernel_rfl) (by kernel_rfl) (fun _ hS_ => run_ld (Fr.has hS_ (hC864.get 0 rfl) (by simpa using hC864.ne 0 2 rfl rfl (by decide))) rfl) hS865 ?_
     refine WD.sem 11 (Instr.loadAt 3 (.pointer (some ⟨p, 1, none⟩))) 115 (.int .i64 V.now) (by kernel_rfl) (by kernel_rfl) (run_ld (hC864.get 0 rfl) rfl) hS865 ?_
     refine WD.call 12 (by kernel_rfl) rfl rfl rfl rfl rfl (by kernel_rfl) (Grant_ct A527 c528 (V.leases.filter (pruneP V.now)) (outV V.snats dip) dip V.now w862 (own_rd ho871 encL_len (by decide)) (fun l_ h_ => hw.lok l_ (List.mem_filter.1 h_).1) (by omega) hvip_ hd (hg.frN hC864.fr (fun b_ off_ e_ => by cases e_; exact h0))) ?_
     rintro _ w876 ⟨v_, rfl, hF875, ho874⟩
     have hC877 := hC864.callN hF875 (own_ge ho874) (own_lt ho874)
     obtain ⟨A878, c879, rfl, hle880⟩ := own_form ho874
     have ho882 := own_base (b' := 0) ho874 (fun _ _ => Nat.zero_le _)
     have hS883 := hS865.trans hF875 (by simp)
     refine ⟨_, rfl, hS883, ?_⟩
     have ho884 := own_fr ho866 hF875 (by simp)
     have ho885 := own_fr ho867 hF875 (by simp)
     have ho886 := own_fr ho868 hF875 (by simp)
     have hf888 := svcsIn.fr hf870 hF875 (by simp)
     have ho889 := own_fr ho871 hF875 (by simp)
     refine WDp (NPt hN) 13 103 (.tuple #[.slice A878 ((grX (V.leases.filter (pruneP V.now)) (outV V.snats dip) dip V.now).length) c879, .agg #[.int .u32 ((grL (V.leases.filter (pruneP V.now)) (outV V.snats dip) dip V.now).vip), .int .i64 ((grL (V.leases.filter (pruneP V.now)) (outV V.snats dip) dip V.now).first), .int .u32 ((grL (V.leases.filter (pruneP V.now)) (outV V.snats dip) dip V.now).dip), .int .i64 ((grL (V.leases.filter (pruneP V.now)) (outV V.snats dip) dip V.now).exp)], errV 73 (grE (V.leases.filter (pruneP V.now)) (outV V.snats dip) dip V.now)]) (by kernel_rfl) (fun _ => by kernel_rfl) hS883 ?_
     refine WDp (NPt hN) 14 117 (.slice A878 ((grX (V.leases.filter (pruneP V.now)) (outV V.snats dip) dip V.now).length) c879) (by kernel_rfl) (fun _ => by kernel_rfl) hS883 ?_
     refine WDp (NPt hN) 15 118 (.agg #[.int .u32 ((grL (V.leases.filter (pruneP V.now)) (outV V.snats dip) dip V.now).vip), .int .i64 ((grL (V.leases.filter (pruneP V.now)) (outV V.snats dip) dip V.now).first), .int .u32 ((grL (V.leases.filter (pruneP V.now)) (outV V.snats dip) dip V.now).dip), .int .i64 ((grL (V.leases.filter (pruneP V.now)) (outV V.snats dip) dip V.now).exp)]) (by kernel_rfl) (fun _ => by kernel_rfl) hS883 ?_
     refine WDp (NPt hN) 16 119 (errV 73 (grE (V.leases.filter (pruneP V.now)) (outV V.snats dip) dip V.now)) (by kernel_rfl) (fun _ => by kernel_rfl) hS883 ?_
     refine WDp (NPt hN) 17 10 (.slice A878 ((grX (V.leases.filter (pruneP V.now)) (outV V.snats dip) dip V.now).length) c879) (by kernel_rfl) (fun _ => by kernel_rfl) hS883 ?_
     obtain ⟨w893, hr894, hF895, hC896⟩ := sto_run (c' := #[.int .u32 ((grL (V.leases.filter (pruneP V.now)) (outV V.snats dip) dip V.now).vip), .int .i64 ((grL (V.leases.filter (pruneP V.now)) (outV V.snats dip) dip V.now).first), .int .u32 ((grL (V.leases.filter (pruneP V.now)) (outV V.snats dip) dip V.now).dip), .int .i64 ((grL (V.leases.filter (pruneP V.now)) (outV V.snats dip) dip V.now).exp)]) Tryd.prog hC877 2 43 g686 0 (.agg #[.int .u32 ((grL (V.leases.filter (pruneP V.now)) (outV V.snats dip) dip V.now).vip), .int .i64 ((grL (V.leases.filter (pruneP V.now)) (outV V.snats dip) dip V.now).first), .int .u32 ((grL (V.leases.filter (pruneP V.now)) (outV V.snats dip) dip V.now).dip), .int .i64 ((grL (V.leases.filter (pruneP V.now)) (outV V.snats dip) dip V.now).exp)]) rfl (by kernel_rfl)
     have hS897 := hS883.trans hF895 (by first | (simp; done) | (simp [*]; done) | (have q_ := hS883.size; simp; omega))
     refine WD.semU 18 (Instr.storeAt 43 (.pointer (some ⟨g686, 0, none⟩)) (.agg #[.int .u32 ((grL (V.leases.filter (pruneP V.now)) (outV V.snats dip) dip V.now).vip), .int .i64 ((grL (V.leases.filter (pruneP V.now)) (outV V.snats dip) dip V.now).first), .int .u32 ((grL (V.leases.filter (pruneP V.now)) (outV V.snats dip) dip V.now).dip), .int .i64 ((grL (V.leases.filter (pruneP V.now)) (outV V.snats dip) dip V.now).exp)])) (by kernel_rfl) (by kernel_rfl) hr894 hS897 ?_
     have ho898 := own_fr ho884 hF895 (hC877.apartM 0 2 rfl rfl)
     have ho899 := own_fr ho885 hF895 (hC877.apartM 1 2 rfl rfl)
     have ho900 := own_fr ho886 hF895 (hC877.apartM 2 2 rfl rfl)
     have hf902 := svcsIn.fr hf888 hF895 (hC877.apartM 4 2 rfl rfl)
     have ho903 := own_fr ho889 hF895 (hC877.apartM 5 2 rfl rfl)
     have ho906 := own_fr ho882 hF895 (hC877.apartM 8 2 rfl rfl)
     refine WDp (NPt hN) 19 12 (errV 73 (grE (V.leases.filter (pruneP V.now)) (outV V.snats dip) dip V.now)) (by kernel_rfl) (fun _ => by kernel_rfl) hS897 ?_
     refine WD.done (by kernel_rfl) ?_
     refine QXn (hK702 _ _ ?_)
     refine WCs (fun K907 hK908 => ?_)
     refine WCs (fun K909 hK910 => ?_)
     refine WCg (WLr 1 [(120, errV 73 (grE (V.leases.filter (pruneP V.now)) (outV V.snats dip) dip V.now))] (fun _ => by kernel_rfl) ?_)
     have hr911 : ∀ w_, Sem.run Tryd.prog (do eqGuard .neq 38 (Operand.tmp 120) (Operand.const (.nilIface)) (errV 73 (grE (V.leases.filter (pruneP V.now)) (outV V.snats dip) dip V.now)) (.nilIface); binOp .neq 38 (errV 73 (grE (V.leases.filter (pruneP V.now)) (outV V.snats dip) dip V.now)) (.nilIface)) w_ = .ok (.bool (!(decide (grE (V.leases.filter (pruneP V.now)) (outV V.snats dip) dip V.now = 0)))) w_ := fun w_ => (err_neq _ (grE (V.leases.filter (pruneP V.now)) (outV V.snats dip) dip V.now) (decide (grE (V.leases.filter (pruneP V.now)) (outV V.snats dip) dip V.now = 0)) (by rfl) _)
     refine WL.sem (do eqGuard .neq 38 (Operand.tmp 120) (Operand.const (.nilIface)) (errV 73 (grE (V.leases.filter (pruneP V.now)) (outV V.snats dip) dip V.now)) (.nilIface); binOp .neq 38 (errV 73 (grE (V.leases.filter (pruneP V.now)) (outV V.snats dip) dip V.now)) (.nilIface)) 121 (.bool (!(decide (grE (V.leases.filter (pruneP V.now)) (outV V.snats dip) dip V.now = 0)))) (by kernel_rfl) (hr911 _) ?_
     refine WLd rfl (QXn (hK910 _ _ ?_))
     refine WCa 121 (!(decide (grE (V.leases.filter (pruneP V.now)) (outV V.snats dip) dip V.now = 0))) rfl (fun t912b => ?_) (fun t912b => ?_)
     ·
      have t912 : (decide (grE (V.leases.filter (pruneP V.now)) (outV V.snats dip) dip V.now = 0)) = false := by first | (simpa only [Bool.not_eq_true', Bool.not_eq_false'] using t912b) | simpa using t912b
      refine WCt rfl ?_
      refine WCs (fun K913 hK914 => ?_)
      refine WCg (WLr 1 [(122, errV 73 (grE (V.leases.filter (pruneP V.now)) (outV V.snats dip) dip V.now))] (fun _ => by kernel_rfl) ?_)
      refine WLc rfl rfl rfl rfl rfl (by kernel_rfl) (result_ct (grE (V.leases.filter (pruneP V.now)) (outV V.snats dip) dip V.now) w893) ?_
      rintro _ w916 ⟨rfl, hF915⟩
      refine ⟨_, rfl, ?_⟩
      have hC917 := hC896.call hF915
      have ho918 := own_fr ho898 hF915 (by simp)
      have ho919 := own_fr ho899 hF915 (by simp)
      have ho920 := own_fr ho900 hF915 (by simp)
      have hf922 := svcsIn.fr hf902 hF915 (by simp)
      have ho923 := own_fr ho903 hF915 (by simp)
      refine WLs (c' := #[.int .i64 (grE (V.leases.filter (pruneP V.now)) (outV V.snats dip) dip V.now), .int .u32 0, .int .i64 0, .int .u32 0, .int .i64 0]) hC917 1 47 g3 0 (.agg #[.int .i64 (grE (V.leases.filter (pruneP V.now)) (outV V.snats dip) dip V.now), .int .u32 0, .int .i64 0, .int .u32 0, .int .i64 0]) (by kernel_rfl) rfl (by kernel_rfl) (fun w927 hF929 hC930 => ?_)
      have ho931 := own_fr ho918 hF929 (hC917.apartM 0 1 rfl rfl)
      have ho932 := own_fr ho919 hF929 (hC917.apartM 1 1 rfl rfl)
      have ho933 := own_fr ho920 hF929 (hC917.apartM 2 1 rfl rfl)
      have hf935 := svcsIn.fr hf922 hF929 (hC917.apartM 4 1 rfl rfl)
      have ho936 := own_fr ho923 hF929 (hC917.apartM 5 1 rfl rfl)
      refine WLd rfl (QXn (hK914 _ _ ?_))
      refine WC.ret ?_
      refine QXr ?_
      refine (hret' _ _ (.agg #[.int .i64 (grE (V.leases.filter (pruneP V.now)) (outV V.snats dip) dip V.now), .int .u32 0, .int .i64 0, .int .u32 0, .int .i64 0]) (fun a ha => ?_) ?_).1
      ·
       exact res_run ha ((ResR.cell rfl (run_ld (hC930.get 1 rfl) rfl) ResR.nil)) rfl
      clear hN hret hret' hK914 hK910 hK908 hK704 hK702 hK700 hK685 hK683 hK594 hK592 hK556 hK554 hK552 hK55 hK28 hK26 hK15 hK2
      have hE_ : lendE V (outV V.snats dip) dip = grE (leaL V) (outV V.snats dip) dip V.now := by unfold lendE; rw [if_pos (List.eq_nil_of_length_eq_zero (by omega))]
      have hL_ : lendL V (outV V.snats dip) dip = grL (leaL V) (outV V.snats dip) dip V.now := by unfold lendL; rw [if_pos (List.eq_nil_of_length_eq_zero (by omega))]
      have hX_ : lendX V (outV V.snats dip) dip = grX (leaL V) (outV V.snats dip) dip V.now := by unfold lendX; rw [if_pos (List.eq_nil_of_length_eq_zero (by omega))]
      have hz_ : ¬ grE (leaL V) (outV V.snats dip) dip V.now = 0 := (by have q_ := t912b; simpa [leaL] using q_)
      have hR_ : leaseR V dip = ⟨grE (leaL V) (outV V.snats dip) dip V.now, noL⟩ := by unfold leaseR; rw [if_neg (by rw [t29]; decide)]; rw [hE_, if_neg hz_]
      have hV_ : leaseC V dip = { V with leases := leaL V } := by unfold leaseC; rw [if_neg (by rw [t29]; decide)]; rw [hE_, if_neg hz_]
      rw [hR_, hV_]
      have hC943 := Cx.pickM hC930 [0] [0, 1, 2, 4, 5] (by decide) rfl rfl
      have hC944 := Cx_sw5 hC943
      obtain ⟨hT940, hfr941, hsub942⟩ := cfg_close (V := { V with leases := leaL V }) (xs := xs) hC944 ho931 ho932 ho933 ho936 hf935 hvals
      exact ⟨_, rfl, hfr941, hT940, hsub942⟩
     ·
      have t912 : (decide (grE (V.leases.filter (pruneP V.now)) (outV V.snats dip) dip V.now = 0)) = true := by first | (simpa only [Bool.not_eq_true', Bool.not_eq_false'] using t912b) | simpa using t912b
      refine WCf rfl (WC.skip (QXn (hK908 _ _ ?_)))
      refine WCs (fun K945 hK946 => ?_)
      refine WCg (WLr 5 [(128, .pointer (some ⟨p, 5, none⟩)), (127, .pointer (some ⟨p, 0, none⟩)), (126, .pointer (some ⟨p, 0, none⟩)), (125, .slice A878 ((grX (V.leases.filter (pruneP V.now)) (outV V.snats dip) dip V.now).length) c879), (124, .pointer (some ⟨p, 0, none⟩))] (fun _ => by kernel_rfl) ?_)
      refine WLs (c' := #[.int .i64 V.epoch, .int .i64 V.now, .slice AS xs.length cS, .slice AN V.snats.length cN, .slice AK V.sick.length cK, .slice A878 ((grX (V.leases.filter (pruneP V.now)) (outV V.snats dip) dip V.now).length) c879]) hC896 0 29 p 5 (.slice A878 ((grX (V.leases.filter (pruneP V.now)) (outV V.snats dip) dip V.now).length) c879) (by kernel_rfl) rfl (by kernel_rfl) (fun w947 hF949 hC950 => ?_)
      have ho951 := own_fr ho898 hF949 (hC896.apartM 0 0 rfl rfl)
      have ho952 := own_fr ho899 hF949 (hC896.apartM 1 0 rfl rfl)
      have ho953 := own_fr ho900 hF949 (hC896.apartM 2 0 rfl rfl)
      have hf955 := svcsIn.fr hf902 hF949 (hC896.apartM 4 0 rfl rfl)
      have ho959 := own_fr ho906 hF949 (hC896.apartM 8 0 rfl rfl)
      refine WLd rfl (QXn (hK946 _ _ ?_))
      refine WCs (fun K960 hK961 => ?_)
      refine WCg ?_
      refine WL.load 43 (.pointer (some ⟨g686, 0, none⟩)) (.agg #[.int .u32 ((grL (V.leases.filter (pruneP V.now)) (outV V.snats dip) dip V.now).vip), .int .i64 ((grL (V.leases.filter (pruneP V.now)) (outV V.snats dip) dip V.now).first), .int .u32 ((grL (V.leases.filter (pruneP V.now)) (outV V.snats dip) dip V.now).dip), .int .i64 ((grL (V.leases.filter (pruneP V.now)) (outV V.snats dip) dip V.now).exp)]) 129 (by kernel_rfl) (run_ld (hC950.get 2 rfl) rfl) ?_
      refine WLr 1 [(130, .agg #[.int .i64 0, .int .u32 ((grL (V.leases.filter (pruneP V.now)) (outV V.snats dip) dip V.now).vip), .int .i64 ((grL (V.leases.filter (pruneP V.now)) (outV V.snats dip) dip V.now).first), .int .u32 ((grL (V.leases.filter (pruneP V.now)) (outV V.snats dip) dip V.now).dip), .int .i64 ((grL (V.leases.filter (pruneP V.now)) (outV V.snats dip) dip V.now).exp)])] (fun _ => by kernel_rfl) ?_
      refine WLs (c' := #[.int .i64 0, .int .u32 ((grL (V.leases.filter (pruneP V.now)) (outV V.snats dip) dip V.now).vip), .int .i64 ((grL (V.leases.filter (pruneP V.now)) (outV V.snats dip) dip V.now).first), .int .u32 ((grL (V.leases.filter (pruneP V.now)) (outV V.snats dip) dip V.now).dip), .int .i64 ((grL (V.leases.filter (pruneP V.now)) (outV V.snats dip) dip V.now).exp)]) hC950 1 47 g3 0 (.agg #[.int .i64 0, .int .u32 ((grL (V.leases.filter (pruneP V.now)) (outV V.snats dip) dip V.now).vip), .int .i64 ((grL (V.leases.filter (pruneP V.now)) (outV V.snats dip) dip V.now).first), .int .u32 ((grL (V.leases.filter (pruneP V.now)) (outV V.snats dip) dip V.now).dip), .int .i64 ((grL (V.leases.filter (pruneP V.now)) (outV V.snats dip) dip V.now).exp)]) (by kernel_rfl) rfl (by kernel_rfl) (fun w962 hF964 hC965 => ?_)
      have ho966 := own_fr ho951 hF964 (hC950.apartM 0 1 rfl rfl)
      have ho967 := own_fr ho952 hF964 (hC950.apartM 1 1 rfl rfl)
      have ho968 := own_fr ho953 hF964 (hC950.apartM 2 1 rfl rfl)
      have hf970 := svcsIn.fr hf955 hF964 (hC950.apartM 4 1 rfl rfl)
      have ho974 := own_fr ho959 hF964 (hC950.apartM 8 1 rfl rfl)
      refine WLd rfl (QXn (hK961 _ _ ?_))
      refine WC.ret ?_
      refine (hret' _ _ (.agg #[.int .i64 0, .int .u32 ((grL (V.leases.filter (pruneP V.now)) (outV V.snats dip) dip V.now).vip), .int .i64 ((grL (V.leases.filter (pruneP V.now)) (outV V.snats dip) dip V.now).first), .int .u32 ((grL (V.leases.filter (pruneP V.now)) (outV V.snats dip) dip V.now).dip), .int .i64 ((grL (V.leases.filter (pruneP V.now)) (outV V.snats dip) dip V.now).exp)]) (fun a ha => ?_) ?_).1
      ·
       exact res_run ha ((ResR.cell rfl (run_ld (hC965.get 1 rfl) rfl) ResR.nil)) rfl
      clear hN hret hret' hK961 hK946 hK910 hK908 hK704 hK702 hK700 hK685 hK683 hK594 hK592 hK556 hK554 hK552 hK55 hK28 hK26 hK15 hK2
      have hE_ : lendE V (outV V.snats dip) dip = grE (leaL V) (outV V.snats dip) dip V.now := by unfold lendE; rw [if_pos (List.eq_nil_of_length_eq_zero (by omega))]
      have hL_ : lendL V (outV V.snats dip) dip = grL (leaL V) (outV V.snats dip) dip V.now := by unfold lendL; rw [if_pos (List.eq_nil_of_length_eq_zero (by omega))]
      have hX_ : lendX V (outV V.snats dip) dip = grX (leaL V) (outV V.snats dip) dip V.now := by unfold lendX; rw [if_pos (List.eq_nil_of_length_eq_zero (by omega))]
      have hz_ : grE (leaL V) (outV V.snats dip) dip V.now = 0 := (by have q_ := t912b; simpa [leaL] using q_)
      have hR_ : leaseR V dip = ⟨0, grL (leaL V) (outV V.snats dip) dip V.now⟩ := by unfold leaseR; rw [if_neg (by rw [t29]; decide)]; rw [hE_, if_pos hz_, hL_, hz_]
      have hV_ : leaseC V dip = { V with leases := grX (leaL V) (outV V.snats dip) dip V.now } := by unfold leaseC; rw [if_neg (by rw [t29]; decide)]; rw [hE_, if_pos hz_, hX_]
      rw [hR_, hV_]
      have hC978 := Cx.pickM hC965 [0] [0, 1, 2, 4, 8] (by decide) rfl rfl
      have hC979 := Cx_sw5 hC978
      obtain ⟨hT975, hfr976, hsub977⟩ := cfg_close (V := { V with leases := grX (leaL V) (outV V.snats dip) dip V.now }) (xs := xs) hC979 ho966 ho967 ho968 ho974 hf970 hvals
      exact ⟨_, rfl, hfr976, hT975, hsub977⟩

end Go.Proofs.YtfligklljkcbfaaDoor
