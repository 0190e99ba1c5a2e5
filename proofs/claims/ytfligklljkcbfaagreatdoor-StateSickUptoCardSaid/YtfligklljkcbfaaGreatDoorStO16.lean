/- Contracts of functions of the program, each proved by a walk through its code; conditions stand in the statements. -/
import Derived.Test.YtfligklljkcbfaaGreatDoorStN16
import Derived.Test.YtfligklljkcbfaaGreatDoorTwAl
namespace Go.Proofs.YtfligklljkcbfaaGreatDoor
set_option linter.unusedSimpArgs false
set_option linter.unusedVariables false
set_option linter.unusedSectionVars false
open Go Go.RowKit Go.Tw
set_option linter.unusedVariables false
set_option maxRecDepth 20000
theorem outV_u32 {ns : List SnatV} (h : ∀ x ∈ ns, isU32 x.dip ∧ isU32 x.vip) (dip : Int) : isU32 (outV ns dip) := by
  unfold outV
  cases hf : outF ns dip with
  | none => exact ⟨by decide, by decide⟩
  | some x => exact (h x (List.mem_of_find?_eq_some hf)).2
theorem in_leaL {V : CfgV} {l : Lease} (h : l ∈ leaL V) : l ∈ V.leases ∧ V.now ≤ l.exp := by
  obtain ⟨h1, h2⟩ := List.mem_filter.1 h
  exact ⟨h1, by simpa [pruneP, livesB] using h2⟩
theorem zero_notin {F F2 : List Nat} {w : World} (h0 : 0 ∉ F) (hs : 0 < w.heap.size) (h : ∀ x ∈ F2, x ∈ F ∨ w.heap.size ≤ x) : 0 ∉ F2 := fun hx => (h 0 hx).elim h0 (fun q => by omega)
theorem rd_size {α : Type} {w : World} {sz : Nat} {enc : α → List Value} {b off : Nat} {xs : List α} (h : Rd w sz enc (some ⟨b, off, none⟩) xs) (hp : ∀ x, 0 < (enc x).length) (hne : 0 < xs.length) : b < w.heap.size :=
  rd_lt h hp rfl (List.length_pos_iff.1 hne)
theorem dbTab_size {w : World} (hg : Rd w 1 (encI .u8) (some ⟨0, 0, none⟩) dbTab) : 0 < w.heap.size := rd_size hg (fun _ => Nat.lt_succ_self _) (by simp only [dbTab, List.length]; omega)
set_option maxHeartbeats 2000000 in
theorem lease_ct (F : List Nat) (p : Nat) (V : CfgV) (n : Nat) (dip : Int) (w : World) (h : cfgAt w F p V) (hw : wfCfg V n) (hn : n ≤ 100000000000) (hd : isU32 dip) (h0 : 0 ∉ F) (hg : Rd w 1 (encI .u8) (some ⟨0, 0, none⟩) dbTab) : Calls Tryz.prog 62 #[.pointer (some ⟨p, 0, none⟩), .int .u32 dip] w fun e w' => ∃ F2, e = .returned (.agg #[.int .i64 ((leaseR V dip).err), .int .u32 ((leaseR V dip).lease.vip), .int .i64 ((leaseR V dip).lease.first), .int .u32 ((leaseR V dip).lease.dip), .int .i64 ((leaseR V dip).lease.exp)]) ∧ Fr w w' F ∧ cfgAt w' F2 p (leaseC V dip) ∧ ∀ x ∈ F2, x ∈ F ∨ w.heap.size ≤ x := by
 refine enterD (n := 131) Tryz.func62 rfl rfl (Nat.le_of_ble_eq_true rfl) ?_
 intro Q0 hN hret hret'
 have hvip_ := outV_u32 hw.nok dip
 have hlea_ := Nat.le_trans (List.length_filter_le (pruneP V.now) V.leases) hw.ln
 obtain ⟨AS, cS, xs, AN, cN, AK, cK, AL, cL, R, hC, hF_, hrS, hrN, hrK, hrL, hin, hvals⟩ := h
 have hssx_ : sortK kS xs := sortK_map (by rw [hvals]; exact hw.ssort)
 have hslx_ : V.svcs.length = xs.length := by rw [← hvals, List.length_map]
 have hws1_ := hw.sn
 have hws2_ := hw.nn
 have hws3_ := hw.kn
 have hws4_ := hw.ln
 have hws5_ := hw.ep0
 have hws6_ := hw.ep1
 have hws7_ := hw.now0
 have hws8_ := hw.now1
 refine WCs (fun K1 hK2 => ?_)
 refine WCg ?_
 refine WL.newM hC (fun b => .pointer (some ⟨b, 0, none⟩)) (.cells #[.int .i64 0, .int .u32 0, .int .i64 0, .int .u32 0, .int .i64 0] 52) 4 (fun _ => by kernel_rfl) (fun g3 w4 hb7 hF5 hC6 => ?_)
 have ho8 := own_fr hrS hF5 (by simp)
 have ho9 := own_fr hrN hF5 (by simp)
 have k9 := own_fr hrK hF5 (by simp)
 have la := own_fr hrL hF5 (by simp)
 have lb := svcsIn.fr hin hF5 (by simp)
 have lc := (Fr.refl w []).trans hF5 (by simp)
 refine WLd rfl (QXn (hK2 _ _ ?_))
 refine WCs (fun nV be => ?_)
 refine WCg (WLq 3 [(17, .pointer (some ⟨p, 0, none⟩)), (16, .pointer (some ⟨p, 0, none⟩)), (15, .pointer (some ⟨p, 0, none⟩))] ?_)
 refine WLo 31 (.pointer (some ⟨p, 0, none⟩)) (.agg #[.int .i64 V.epoch, .int .i64 V.now, .slice AS xs.length cS, .slice AN V.snats.length cN, .slice AK V.sick.length cK, .slice AL V.leases.length cL]) 18 (run_ld (hC6.get 0 rfl) rfl) ?_
 refine WLq 1 [(19, .int .u32 dip)] ?_
 refine WLc rfl rfl rfl rfl rfl (by kernel_rfl) (Outside_n V.epoch V.now AS AK AL xs.length cS V.sick.length cK V.leases.length cL AN V.snats.length cN V.snats dip w4 (own_rd ho9 cellsN_len (by decide)) (own_count cellsN_len (by decide) ho9) (by first | omega | (simp; done))) ?_
 rintro _ mm ⟨rfl, cs⟩
 refine ⟨_, rfl, ?_⟩
 have fl := hC6.call cs
 have fm := own_fr ho8 cs (by simp)
 have fn := own_fr ho9 cs (by simp)
 have fo := own_fr k9 cs (by simp)
 have fp := own_fr la cs (by simp)
 have fq := svcsIn.fr lb cs (by simp)
 have fs := lc.trans cs (by simp)
 refine WLq 5 [(6, .bool (outB V.snats dip)), (5, .int .u32 (outV V.snats dip)), (22, .bool (outB V.snats dip)), (21, .int .u32 (outV V.snats dip)), (14, .tuple #[.int .u32 (outV V.snats dip), .bool (outB V.snats dip)])] (WLd rfl (QXn (be _ _ ?_)))
 refine WCs (fun nW bf => ?_)
 refine WCs (fun nX bg => ?_)
 refine WCg (WLq 2 [(24, .bool (!(outB V.snats dip))), (23, .bool (outB V.snats dip))] (WLd rfl (QXn (bg _ _ ?_))))
 refine WCa 24 (!(outB V.snats dip)) rfl (fun aJ => ?_) (fun aJ => ?_)
 ·
  have aG : (outB V.snats dip) = false := by first | (simpa only [Bool.not_eq_true', Bool.not_eq_false'] using aJ) | simpa using aJ
  refine WCt rfl ?_
  refine WCs (fun nY ft => ?_)
  refine WCg (WLq 1 [(25, .iface 118 (.int .i64 6))] ?_)
  refine WLc rfl rfl rfl rfl rfl (by kernel_rfl) (result_err 6 mm) ?_
  rintro _ nZ ⟨rfl, ct⟩
  refine ⟨_, rfl, ?_⟩
  have cD := fl.call ct
  have lf := own_fr fm ct (by simp)
  have lg := own_fr fn ct (by simp)
  have lh := own_fr fo ct (by simp)
  have li := own_fr fp ct (by simp)
  have lj := svcsIn.fr fq ct (by simp)
  have mn := fs.trans ct (by simp)
  refine WLs (c' := #[.int .i64 6, .int .u32 0, .int .i64 0, .int .u32 0, .int .i64 0]) cD 1 52 g3 0 (.agg #[.int .i64 6, .int .u32 0, .int .i64 0, .int .u32 0, .int .i64 0]) (by kernel_rfl) rfl (by kernel_rfl) (fun n0 cX fu => ?_)
  have lk := own_fr lf cX (cD.apartM 0 1 rfl rfl)
  have ll := own_fr lg cX (cD.apartM 1 1 rfl rfl)
  have lm := own_fr lh cX (cD.apartM 2 1 rfl rfl)
  have lo := own_fr li cX (cD.apartM 3 1 rfl rfl)
  have lp := svcsIn.fr lj cX (cD.apartM 4 1 rfl rfl)
  refine WLd rfl (QXn (ft _ _ ?_))
  refine WC.ret ?_
  refine QXr ?_
  refine (hret' _ _ (.agg #[.int .i64 6, .int .u32 0, .int .i64 0, .int .u32 0, .int .i64 0]) (fun a ha => ?_) ?_).1
  ·
   exact res_run ha ((ResR.cell rfl (run_ld (fu.get 1 rfl) rfl) ResR.nil)) rfl
  clear hN hret hret' ft bg bf be hK2
  have lq := Cx.pickM fu [0] [0, 1, 2, 3, 4] (by decide) rfl rfl
  obtain ⟨lr, fv, e4⟩ := cfg_close (V := V) (xs := xs) lq lk ll lm lo lp hvals
  have hR_ : leaseR V dip = errR 6 := by unfold leaseR; rw [if_pos aG]
  have hV_ : leaseC V dip = V := by unfold leaseC; rw [if_pos aG]
  rw [hR_, hV_]
  exact ⟨_, rfl, fv, lr, e4⟩
 ·
  have aG : (outB V.snats dip) = true := by first | (simpa only [Bool.not_eq_true', Bool.not_eq_false'] using aJ) | simpa using aJ
  refine WCf rfl (WC.skip (QXn (bf _ _ ?_)))
  refine WCs (fun n1 bh => ?_)
  refine WC.drawC fl [p] (by kernel_rfl) (fun l9 cE cF ak => ?_)
  have fw := own_fr fm cE (by simp)
  have fx := own_fr fn cE (by simp)
  have fy := own_fr fo cE (by simp)
  have dB := own_fr fp cE (by simp)
  have fz := svcsIn.fr fq cE (by simp)
  have fA := fs.trans cE (by simp)
  refine WDq (NPt hN) 0 27 (.pointer (some ⟨p, 0, none⟩)) ak ?_
  refine WDq (NPt hN) 1 28 (.pointer (some ⟨p, 0, none⟩)) ak ?_
  refine WDq (NPt hN) 2 29 (.pointer (some ⟨p, 0, none⟩)) ak ?_
  refine WDq (NPt hN) 3 30 (.pointer (some ⟨p, 0, none⟩)) ak ?_
  refine WDq (NPt hN) 4 31 (.pointer (some ⟨p, 5, none⟩)) ak ?_
  refine WDq (NPt hN) 6 33 (.pointer (some ⟨p, 0, none⟩)) ak ?_
  refine WDq (NPt hN) 7 34 (.pointer (some ⟨p, 0, none⟩)) ak ?_
  refine WDq (NPt hN) 8 35 (.pointer (some ⟨p, 0, none⟩)) ak ?_
  refine WDq (NPt hN) 9 36 (.pointer (some ⟨p, 1, none⟩)) ak ?_
  refine WD.all2 5 10 (by kernel_rfl) ?_ ?_
  ·
   refine WO.sem 5 (Instr.loadAt 29 (.pointer (some ⟨p, 5, none⟩))) 32 (.slice AL V.leases.length cL) (by kernel_rfl) (by kernel_rfl) (run_ld (cF.get 0 rfl) rfl) ak ?_
   refine WD.sem 10 (Instr.loadAt 3 (.pointer (some ⟨p, 1, none⟩))) 37 (.int .i64 V.now) (by kernel_rfl) (by kernel_rfl) (run_ld (cF.get 0 rfl) rfl) ak ?_
   refine WD.call 11 (by kernel_rfl) rfl rfl rfl rfl rfl (by kernel_rfl) (Prune_ct AL cL V.leases V.now l9 (own_rd dB encL_len (by decide)) hw.lok (by first | omega | simp)) ?_
   rintro _ n2 ⟨v_, rfl, bM, dC⟩
   have cu := cF.callN bM (own_ge dC) (own_lt dC)
   obtain ⟨cV, cW, rfl, ma⟩ := own_form dC
   have ls := own_base (b' := 0) dC (fun _ _ => Nat.zero_le _)
   have cG := ak.trans bM (by simp)
   refine ⟨_, rfl, cG, ?_⟩
   have lu := own_fr fw bM (by simp)
   have lv := own_fr fx bM (by simp)
   have lw := own_fr fy bM (by simp)
   have lx := own_fr dB bM (by simp)
   have ly := svcsIn.fr fz bM (by simp)
   have mo := fA.trans bM (by simp)
   refine WDq (NPt hN) 12 39 (.pointer (some ⟨p, 0, none⟩)) cG ?_
   refine WDq (NPt hN) 13 40 (.pointer (some ⟨p, 0, none⟩)) cG ?_
   refine WDq (NPt hN) 14 41 (.pointer (some ⟨p, 5, none⟩)) cG ?_
   obtain ⟨n3, lz, cv, lA⟩ := sto_run (c' := #[.int .i64 V.epoch, .int .i64 V.now, .slice AS xs.length cS, .slice AN V.snats.length cN, .slice AK V.sick.length cK, .slice cV ((V.leases.filter (pruneP V.now)).length) cW]) Tryz.prog cu 0 29 p 5 (.slice cV ((V.leases.filter (pruneP V.now)).length) cW) rfl (by kernel_rfl)
   have lB := cG.trans cv (by first | (simp; done) | (simp [*]; done) | (have q_ := cG.size; simp; omega))
   refine WD.semU 15 (Instr.storeAt 29 (.pointer (some ⟨p, 5, none⟩)) (.slice cV ((V.leases.filter (pruneP V.now)).length) cW)) (by kernel_rfl) (by kernel_rfl) lz lB ?_
   have lC := own_fr lu cv (cu.apartM 0 0 rfl rfl)
   have lD := own_fr lv cv (cu.apartM 1 0 rfl rfl)
   have lE := own_fr lw cv (cu.apartM 2 0 rfl rfl)
   have lF := own_fr lx cv (cu.apartM 3 0 rfl rfl)
   have lG := svcsIn.fr ly cv (cu.apartM 4 0 rfl rfl)
   have lH := own_fr ls cv (cu.apartM 5 0 rfl rfl)
   refine WD.done (by kernel_rfl) ?_
   refine QXn (bh _ _ ?_)
   refine WCs (fun n4 cY => ?_)
   refine WCg (WLq 1 [(7, .slice none 0 0)] (WLd rfl (QXn (cY _ _ ?_))))
   refine WCs (fun n6 cZ => ?_)
   refine WCs (fun n7 c0 => ?_)
   refine WC.drawC lA [] (by kernel_rfl) (fun lI bi c1 ag => ?_)
   have fB := own_fr lC bi (by simp)
   have fC := own_fr lD bi (by simp)
   have fD := own_fr lE bi (by simp)
   have fE := own_fr lF bi (by simp)
   have fF := svcsIn.fr lG bi (by simp)
   have dT := own_fr lH bi (by simp)
   refine WDq (NPt (NPt hN)) 0 42 (.pointer (some ⟨p, 0, none⟩)) ag ?_
   refine WDq (NPt (NPt hN)) 1 43 (.pointer (some ⟨p, 0, none⟩)) ag ?_
   refine WDq (NPt (NPt hN)) 2 44 (.pointer (some ⟨p, 0, none⟩)) ag ?_
   refine WDq (NPt (NPt hN)) 3 45 (.pointer (some ⟨p, 5, none⟩)) ag ?_
   refine WDq (NPt (NPt hN)) 5 47 (.int .u32 dip) ag ?_
   refine WDq (NPt (NPt hN)) 6 48 (.pointer (some ⟨p, 0, none⟩)) ag ?_
   refine WDq (NPt (NPt hN)) 7 49 (.pointer (some ⟨p, 0, none⟩)) ag ?_
   refine WDq (NPt (NPt hN)) 8 50 (.pointer (some ⟨p, 0, none⟩)) ag ?_
   refine WDq (NPt (NPt hN)) 9 51 (.pointer (some ⟨p, 1, none⟩)) ag ?_
   refine WDq (NPt (NPt hN)) 13 55 (.int .i64 0) ag ?_
   refine WDm (NPt (NPt hN)) 4 29 (.pointer (some ⟨p, 5, none⟩)) (.slice cV ((V.leases.filter (pruneP V.now)).length) cW) 46 (fun _ hS_ => run_ld (Fr.has hS_ (c1.get 0 rfl) (by simp)) rfl) ag ?_
   refine WDm (NPt (NPt hN)) 10 3 (.pointer (some ⟨p, 1, none⟩)) (.int .i64 V.now) 52 (fun _ hS_ => run_ld (Fr.has hS_ (c1.get 0 rfl) (by simp)) rfl) ag ?_
   refine WD.call 11 (by kernel_rfl) rfl rfl rfl rfl rfl (by kernel_rfl) (Of_ct cV cW (V.leases.filter (pruneP V.now)) dip V.now lI (own_rd dT encL_len (by decide)) (fun l_ h_ => hw.lok l_ (List.mem_filter.1 h_).1) (by first | omega | simp)) ?_
   rintro _ mp ⟨v_, rfl, ap, cw⟩
   have fG := c1.callN ap (own_ge cw) (own_lt cw)
   obtain ⟨dD, dE, rfl, lJ⟩ := own_form cw
   have dU := own_base (b' := 0) cw (fun _ _ => Nat.zero_le _)
   have dV := ag.trans ap (by simp)
   refine ⟨_, rfl, dV, ?_⟩
   have fH := own_fr fB ap (by simp)
   have fI := own_fr fC ap (by simp)
   have fJ := own_fr fD ap (by simp)
   have fK := own_fr fE ap (by simp)
   have fL := svcsIn.fr fF ap (by simp)
   have fM := own_fr dT ap (by simp)
   refine WDq (NPt (NPt hN)) 12 54 (.int .i64 (((V.leases.filter (pruneP V.now)).filter (ofP dip V.now)).length : Int)) dV ?_
   refine WD.done (by kernel_rfl) ?_
   refine QXn (c0 _ _ ?_)
   refine WC.block ?_
   have fN := fG.addNil
   have hol_ := own_count encL_len (by decide) dU
   have holb_ : ((V.leases.filter (pruneP V.now)).filter (ofP dip V.now)).length ≤ n := Nat.le_trans (List.length_filter_le _ _) (Nat.le_trans (List.length_filter_le _ _) hw.ln)
   refine WC.loop (fun m_ E_ w_ => ∃ (k : Nat) (A5 : Option Addr) (n5 c5 : Nat), m_ = ((V.leases.filter (pruneP V.now)).filter (ofP dip V.now)).length - k ∧ E_ = [(0, .pointer (some ⟨p, 0, none⟩)), (1, .int .u32 dip), (4, .pointer (some ⟨g3, 0, none⟩)), (5, .int .u32 (outV V.snats dip)), (6, .bool (outB V.snats dip)), (7, .slice A5 n5 c5), (53, .slice dD (((V.leases.filter (pruneP V.now)).filter (ofP dip V.now)).length) dE), (54, .int .i64 (((V.leases.filter (pruneP V.now)).filter (ofP dip V.now)).length : Int)), (55, .int .i64 (k : Int))] ∧ Cx w F w_ [(p, .cells #[.int .i64 V.epoch, .int .i64 V.now, .slice AS xs.length cS, .slice AN V.snats.length cN, .slice AK V.sick.length cK, .slice cV ((V.leases.filter (pruneP V.now)).length) cW] 72 (0, 0)), (g3, .cells #[.int .i64 0, .int .u32 0, .int .i64 0, .int .u32 0, .int .i64 0] 52)] [blk (.slice AS xs.length cS), blk (.slice AN V.snats.length cN), blk (.slice AK V.sick.length cK), blk (.slice AL V.leases.length cL), R, blk (.slice cV ((V.leases.filter (pruneP V.now)).length) cW), blk (.slice dD (((V.leases.filter (pruneP V.now)).filter (ofP dip V.now)).length) dE), blk (.slice A5 n5 c5)] ∧ World.ownsRow w_ 0 43 4 (.slice AS xs.length cS) xs.length (xs.flatMap cellsS) ∧ World.ownsRow w_ 0 79 2 (.slice AN V.snats.length cN) V.snats.length (V.snats.flatMap cellsN) ∧ World.ownsRow w_ 0 40 1 (.slice AK V.sick.length cK) V.sick.length (V.sick.flatMap (Go.Tw.encI .u32)) ∧ World.ownsRow w_ 0 50 4 (.slice AL V.leases.length cL) V.leases.length (V.leases.flatMap encL) ∧ svcsIn w_ R xs ∧ World.ownsRow w_ 0 50 4 (.slice cV ((V.leases.filter (pruneP V.now)).length) cW) ((V.leases.filter (pruneP V.now)).length) ((V.leases.filter (pruneP V.now)).flatMap encL) ∧ World.ownsRow w_ 0 50 4 (.slice dD (((V.leases.filter (pruneP V.now)).filter (ofP dip V.now)).length) dE) (((V.leases.filter (pruneP V.now)).filter (ofP dip V.now)).length) (((V.leases.filter (pruneP V.now)).filter (ofP dip V.now)).flatMap encL) ∧ World.ownsRow w_ 0 50 4 (.slice A5 n5 c5) n5 (((((V.leases.filter (pruneP V.now)).filter (ofP dip V.now)).take k).filter (oldP (outV V.snats dip) V.now)).flatMap encL) ∧ (k ≤ ((V.leases.filter (pruneP V.now)).filter (ofP dip V.now)).length)) ⟨_, _, ⟨0, none, 0, 0, rfl, rfl, fN, fH, fI, fJ, fK, fL, fM, dU, own_nil _ _ _ _, Nat.zero_le _⟩, sub_of ⟨rfl, rfl, rfl, rfl, rfl, rfl, rfl, rfl, rfl, trivial⟩⟩ (fun m131 E_ mq mr c2 fO => ?_)
   obtain ⟨k, A5, n5, c5, rfl, rfl, dW, S_m131, N_m131, K_m131, L_m131, in_m131, row82_m131, row126_m131, hold, hk⟩ := fO
   have hon_ := own_count encL_len (by decide) hold
   have honb_ : ((((V.leases.filter (pruneP V.now)).filter (ofP dip V.now)).take k).filter (oldP (outV V.snats dip) V.now)).length ≤ n := Nat.le_trans (List.length_filter_le _ _) (Nat.le_trans (by rw [List.length_take]; exact Nat.min_le_right _ _) holb_)
   refine WCs (fun ms bN => ?_)
   refine WCg (WLq 1 [(56, .bool (decide ((k : Int) < (((V.leases.filter (pruneP V.now)).filter (ofP dip V.now)).length : Int))))] (WLd rfl (QXn (bN _ _ ?_))))
   refine WCs (fun mt bO => ?_)
   refine WCa 56 (decide ((k : Int) < (((V.leases.filter (pruneP V.now)).filter (ofP dip V.now)).length : Int))) rfl (fun bj => ?_) (fun bj => ?_)
   ·
    have dF : (k : Int) < (((V.leases.filter (pruneP V.now)).filter (ofP dip V.now)).length : Int) := by have q_ := of_decide_eq_true bj; omega
    refine WCt rfl ?_
    refine WC.skip ?_
    refine QXn (bO _ _ ?_)
    refine WCs (fun mu c3 => ?_)
    refine WC.block ?_
    refine WCs (fun mv fP => ?_)
    refine WCg ?_
    have mb := own_count encL_len (by decide) row126_m131
    obtain ⟨aa, bk⟩ := get_some (xs := ((V.leases.filter (pruneP V.now)).filter (ofP dip V.now))) (i := k) (by omega)
    obtain ⟨b145, dX⟩ := own_addr (by decide) encL_len row126_m131 bk
    refine WLi dD (((V.leases.filter (pruneP V.now)).filter (ofP dip V.now)).length) dE 57 .i64 (k : Int) b145 0 k 4 (by kernel_rfl) dX (by omega) (by omega) (k * 4) (by first | (simp; done) | omega) ?_
    refine WLo 50 (.pointer (some ⟨b145, k * 4, none⟩)) (.agg #[.int .u32 aa.vip, .int .i64 aa.first, .int .u32 aa.dip, .int .i64 aa.exp]) 58 (run_rdN (l := [.int .u32 aa.vip, .int .i64 aa.first, .int .u32 aa.dip, .int .i64 aa.exp]) rfl rfl (fun j u hu => by have hq_ := Rd.cell (own_rd row126_m131 encL_len (by decide)) dX bk j u hu; simpa [Nat.add_assoc] using hq_)) ?_
    obtain ⟨hm1_, hm2_⟩ := List.mem_filter.1 (List.mem_of_getElem? bk)
    obtain ⟨hm3_, hm4_⟩ := in_leaL hm1_
    obtain ⟨hq1_, hq2_, hq3_, hq4_, hq5_, hq6_, hq7_, hq8_⟩ := hw.lok _ hm3_
    refine WL.newM dW (fun b => .pointer (some ⟨b, 0, none⟩)) (.cells #[.int .u32 0, .int .i64 0, .int .u32 0, .int .i64 0] 50) 9 (fun _ => by kernel_rfl) (fun cH mw mc aq al => ?_)
    have fQ := own_fr S_m131 aq (by simp)
    have fR := own_fr N_m131 aq (by simp)
    have fS := own_fr K_m131 aq (by simp)
    have fT := own_fr L_m131 aq (by simp)
    have fU := svcsIn.fr in_m131 aq (by simp)
    have fV := own_fr row82_m131 aq (by simp)
    have fW := own_fr row126_m131 aq (by simp)
    have fX := own_fr hold aq (by simp)
    refine WLs (c' := #[.int .u32 aa.vip, .int .i64 aa.first, .int .u32 aa.dip, .int .i64 aa.exp]) al 2 50 cH 0 (.agg #[.int .u32 aa.vip, .int .i64 aa.first, .int .u32 aa.dip, .int .i64 aa.exp]) (by kernel_rfl) rfl (by kernel_rfl) (fun mx ar fY => ?_)
    have fZ := own_fr fQ ar (al.apartM 0 2 rfl rfl)
    have f0 := own_fr fR ar (al.apartM 1 2 rfl rfl)
    have f1 := own_fr fS ar (al.apartM 2 2 rfl rfl)
    have f2 := own_fr fT ar (al.apartM 3 2 rfl rfl)
    have f3 := svcsIn.fr fU ar (al.apartM 4 2 rfl rfl)
    have f4 := own_fr fV ar (al.apartM 5 2 rfl rfl)
    have f5 := own_fr fW ar (al.apartM 6 2 rfl rfl)
    have f6 := own_fr fX ar (al.apartM 7 2 rfl rfl)
    refine WLd rfl (QXn (fP _ _ ?_))
    refine WCs (fun my dY => ?_)
    refine WC.drawC fY [] (by kernel_rfl) (fun mz au aK ac => ?_)
    have c4 := own_fr fZ au (by simp)
    have c6 := own_fr f0 au (by simp)
    have c7 := own_fr f1 au (by simp)
    have c8 := own_fr f2 au (by simp)
    have c9 := svcsIn.fr f3 au (by simp)
    have da := own_fr f4 au (by simp)
    have db := own_fr f5 au (by simp)
    have dc := own_fr f6 au (by simp)
    refine WDq (NPt (NPb (NPt (NPt (NPb (NPt hN)))))) 0 59 (.pointer (some ⟨cH, 0, none⟩)) ac ?_
    refine WDq (NPt (NPb (NPt (NPt (NPb (NPt hN)))))) 2 61 (.int .u32 (outV V.snats dip)) ac ?_
    refine WDm (NPt (NPb (NPt (NPt (NPb (NPt hN)))))) 1 40 (.pointer (some ⟨cH, 0, none⟩)) (.int .u32 aa.vip) 60 (fun _ hS_ => run_ld (Fr.has hS_ (aK.get 2 rfl) (by simp)) rfl) ac ?_
    refine WDq (NPt (NPb (NPt (NPt (NPb (NPt hN)))))) 3 62 (.bool (aa.vip == (outV V.snats dip))) ac ?_
    refine WDq (NPt (NPb (NPt (NPt (NPb (NPt hN)))))) 4 63 (.bool (aa.vip == (outV V.snats dip))) ac ?_
    refine WDa 63 (aa.vip == (outV V.snats dip)) rfl (fun bl => ?_) (fun bl => ?_)
    ·
     have dG : aa.vip = (outV V.snats dip) := by simpa using bl
     refine WDq (NPt (NPb (NPt (NPt (NPb (NPt hN)))))) 5 64 (.pointer (some ⟨cH, 3, none⟩)) ac ?_
     refine WDq (NPt (NPb (NPt (NPt (NPb (NPt hN)))))) 7 66 (.pointer (some ⟨p, 0, none⟩)) ac ?_
     refine WDq (NPt (NPb (NPt (NPt (NPb (NPt hN)))))) 8 67 (.pointer (some ⟨p, 0, none⟩)) ac ?_
     refine WDq (NPt (NPb (NPt (NPt (NPb (NPt hN)))))) 9 68 (.pointer (some ⟨p, 0, none⟩)) ac ?_
     refine WDq (NPt (NPb (NPt (NPt (NPb (NPt hN)))))) 10 69 (.pointer (some ⟨p, 1, none⟩)) ac ?_
     refine WDm (NPt (NPb (NPt (NPt (NPb (NPt hN)))))) 6 3 (.pointer (some ⟨cH, 3, none⟩)) (.int .i64 aa.exp) 65 (fun _ hS_ => run_ld (Fr.has hS_ (aK.get 2 rfl) (by simp)) rfl) ac ?_
     refine WDm (NPt (NPb (NPt (NPt (NPb (NPt hN)))))) 11 3 (.pointer (some ⟨p, 1, none⟩)) (.int .i64 V.now) 70 (fun _ hS_ => run_ld (Fr.has hS_ (aK.get 0 rfl) (by simp)) rfl) ac ?_
     refine WDq (NPt (NPb (NPt (NPt (NPb (NPt hN)))))) 12 71 (.int .i64 (IntKind.i64.wrap (aa.exp - V.now))) ac ?_
     refine WD.recast (show (.int .i64 (IntKind.i64.wrap (aa.exp - V.now)) : Value) = .int .i64 (aa.exp - V.now) from by rw [wrap_in_i64 (aa.exp - V.now) (by omega) (by omega)]) ?_
     refine WDq (NPt (NPb (NPt (NPt (NPb (NPt hN)))))) 13 72 (.bool (decide ((aa.exp - V.now) < 32))) ac ?_
     refine WDq (NPt (NPb (NPt (NPt (NPb (NPt hN)))))) 14 73 (.bool (decide ((aa.exp - V.now) < 32))) ac ?_
     refine WD.done (by kernel_rfl) ?_
     refine QXn (dY _ _ ?_)
     refine WCa 73 (decide ((aa.exp - V.now) < 32)) rfl (fun bP => ?_) (fun bP => ?_)
     ·
      have e5 : (aa.exp - V.now) < 32 := by have q_ := of_decide_eq_true bP; omega
      refine WCt rfl ?_
      refine WCg (WLq 1 [(74, .slice A5 n5 c5)] ?_)
      refine WLo 50 (.pointer (some ⟨cH, 0, none⟩)) (.agg #[.int .u32 aa.vip, .int .i64 aa.first, .int .u32 aa.dip, .int .i64 aa.exp]) 75 (run_ld (aK.get 2 rfl) rfl) ?_
      refine WL.newM aK (fun b => .slice (some ⟨b, 0, none⟩) 1 1) (.cells #[.int .u32 aa.vip, .int .i64 aa.first, .int .u32 aa.dip, .int .i64 aa.exp] 50) 76 (fun _ => by kernel_rfl) (fun f7 mA md av am => ?_)
      have f8 := own_fr c4 av (by simp)
      have f9 := own_fr c6 av (by simp)
      have ga := own_fr c7 av (by simp)
      have gb := own_fr c8 av (by simp)
      have gc := svcsIn.fr c9 av (by simp)
      have gd := own_fr da av (by simp)
      have gf := own_fr db av (by simp)
      have gg := own_fr dc av (by simp)
      obtain ⟨mB, mC, gh, gi, aL, gj, k5, k6⟩ := app_run Tryz.prog am 7 (v := .slice A5 n5 c5) rfl 29 29 50 4 32 n5 1 1 (some ⟨f7, 0, none⟩) rfl gg [.int .u32 aa.vip, .int .i64 aa.first, .int .u32 aa.dip, .int .i64 aa.exp] rfl (srcOk.blk 1 (am.get 3 rfl)) rfl (by simp only [maxLen]; omega) (by omega)
      have dZ := own_snoc (enc := encL) (ys := ((((V.leases.filter (pruneP V.now)).filter (ofP dip V.now)).take k).filter (oldP (outV V.snats dip) V.now))) aa gi
      obtain ⟨e6, e7, rfl, lK⟩ := own_form dZ
      refine WL.sem (Builtin.append_ #[29, 29] 29 #[.slice A5 n5 c5, .slice (some ⟨f7, 0, none⟩) 1 1]) 77 (.slice e6 (n5 + 1) e7) (by kernel_rfl) gh ?_
      have gk := own_fr f8 aL (am.disj 0 7 rfl rfl (by decide))
      have gl := own_fr f9 aL (am.disj 1 7 rfl rfl (by decide))
      have gm := own_fr ga aL (am.disj 2 7 rfl rfl (by decide))
      have gn := own_fr gb aL (am.disj 3 7 rfl rfl (by decide))
      have go := svcsIn.fr gc aL (am.disj 4 7 rfl rfl (by decide))
      have gp := own_fr gd aL (am.disj 5 7 rfl rfl (by decide))
      have gq := own_fr gf aL (am.disj 6 7 rfl rfl (by decide))
      refine WLq 1 [(7, .slice e6 (n5 + 1) e7)] ?_
      refine WLd rfl ?_
      refine QXb ?_
      refine QXn (c3 _ _ ?_)
      refine WCg (WLq 1 [(78, .int .i64 (IntKind.i64.wrap ((k : Int) + 1)))] ?_)
      refine WLt (show (.int .i64 (IntKind.i64.wrap ((k : Int) + 1)) : Value) = .int .i64 ((k : Int) + 1) from by rw [wrap_in_i64 ((k : Int) + 1) (by omega) (by omega)]) ?_
      refine WLq 1 [(55, .int .i64 ((k : Int) + 1))] ?_
      refine WLd rfl ?_
      refine QXn ?_
      have gr := gj.pick [0, 1] [0, 1, 2, 3, 4, 5, 6, 7] rfl rfl
      refine fun a_ ha_ => c2 _ _ _ ?_ ⟨k + 1, e6, n5 + 1, e7, rfl, rfl, gr, gk, gl, gm, gn, go, gp, gq, by rw [filt_snoc (oldP (outV V.snats dip) V.now) bk, if_pos (by simp [oldP, dF, bj, dG, bl, e5, bP, aG, aJ])]; exact dZ, by omega⟩ a_ (ha_.weaken (sub_of ⟨rfl, rfl, rfl, rfl, rfl, rfl, rfl, rfl, rfl, trivial⟩))
      omega
     ·
      have e5 : (32 : Int) ≤ (aa.exp - V.now) := by have q_ := of_decide_eq_false bP; omega
      refine WCf rfl (WC.skip ?_)
      refine QXb ?_
      refine QXn (c3 _ _ ?_)
      refine WCg (WLq 1 [(78, .int .i64 (IntKind.i64.wrap ((k : Int) + 1)))] ?_)
      refine WLt (show (.int .i64 (IntKind.i64.wrap ((k : Int) + 1)) : Value) = .int .i64 ((k : Int) + 1) from by rw [wrap_in_i64 ((k : Int) + 1) (by omega) (by omega)]) ?_
      refine WLq 1 [(55, .int .i64 ((k : Int) + 1))] ?_
      refine WLd rfl ?_
      refine QXn ?_
      have gs := aK.pick [0, 1] [0, 1, 2, 3, 4, 5, 6, 7] rfl rfl
      refine fun a_ ha_ => c2 _ _ _ ?_ ⟨k + 1, A5, n5, c5, rfl, rfl, gs, c4, c6, c7, c8, c9, da, db, by rw [filt_snoc (oldP (outV V.snats dip) V.now) bk, if_neg (by simp [oldP, dF, bj, dG, bl, e5, bP, aG, aJ] <;> omega), List.append_nil]; exact dc, by omega⟩ a_ (ha_.weaken (sub_of ⟨rfl, rfl, rfl, rfl, rfl, rfl, rfl, rfl, rfl, trivial⟩))
      omega
    ·
     have dG : ¬ (aa.vip = (outV V.snats dip)) := by simpa using bl
     refine WDq (NPt (NPb (NPt (NPt (NPb (NPt hN)))))) 5 64 (undef) ac ?_
     refine WDq (NPt (NPb (NPt (NPt (NPb (NPt hN)))))) 6 65 (undef) ac ?_
     refine WDq (NPt (NPb (NPt (NPt (NPb (NPt hN)))))) 7 66 (undef) ac ?_
     refine WDq (NPt (NPb (NPt (NPt (NPb (NPt hN)))))) 8 67 (undef) ac ?_
     refine WDq (NPt (NPb (NPt (NPt (NPb (NPt hN)))))) 9 68 (undef) ac ?_
     refine WDq (NPt (NPb (NPt (NPt (NPb (NPt hN)))))) 10 69 (undef) ac ?_
     refine WDq (NPt (NPb (NPt (NPt (NPb (NPt hN)))))) 11 70 (undef) ac ?_
     refine WDq (NPt (NPb (NPt (NPt (NPb (NPt hN)))))) 12 71 (undef) ac ?_
     refine WDq (NPt (NPb (NPt (NPt (NPb (NPt hN)))))) 13 72 (undef) ac ?_
     refine WDq (NPt (NPb (NPt (NPt (NPb (NPt hN)))))) 14 73 (.bool false) ac ?_
     refine WD.done (by kernel_rfl) ?_
     refine QXn (dY _ _ ?_)
     refine WCf rfl (WC.skip ?_)
     refine QXb ?_
     refine QXn (c3 _ _ ?_)
     refine WCg (WLq 1 [(78, .int .i64 (IntKind.i64.wrap ((k : Int) + 1)))] ?_)
     refine WLt (show (.int .i64 (IntKind.i64.wrap ((k : Int) + 1)) : Value) = .int .i64 ((k : Int) + 1) from by rw [wrap_in_i64 ((k : Int) + 1) (by omega) (by omega)]) ?_
     refine WLq 1 [(55, .int .i64 ((k : Int) + 1))] ?_
     refine WLd rfl ?_
     refine QXn ?_
     have gu := aK.pick [0, 1] [0, 1, 2, 3, 4, 5, 6, 7] rfl rfl
     refine fun a_ ha_ => c2 _ _ _ ?_ ⟨k + 1, A5, n5, c5, rfl, rfl, gu, c4, c6, c7, c8, c9, da, db, by rw [filt_snoc (oldP (outV V.snats dip) V.now) bk, if_neg (by simp [oldP, dF, bj, dG, bl, aG, aJ] <;> omega), List.append_nil]; exact dc, by omega⟩ a_ (ha_.weaken (sub_of ⟨rfl, rfl, rfl, rfl, rfl, rfl, rfl, rfl, rfl, trivial⟩))
     omega
   ·
    have dF : (((V.leases.filter (pruneP V.now)).filter (ofP dip V.now)).length : Int) ≤ (k : Int) := by have q_ := of_decide_eq_false bj; omega
    refine WCf rfl ?_
    have hke_ : k = ((V.leases.filter (pruneP V.now)).filter (ofP dip V.now)).length := by omega
    have bK := hold
    rw [List.take_of_length_le (by omega)] at bK hon_ honb_
    have hfo_ : ((V.leases.filter (pruneP V.now)).filter (ofP dip V.now)).filter (oldP (outV V.snats dip) V.now) = (oldL V (outV V.snats dip) dip) := rfl
    rw [hfo_] at bK hon_ honb_
    skip
    refine WC.exit ?_
    refine QXe ?_
    refine QXe ?_
    refine QX.block_hit ?_
    refine QXn (cZ _ _ ?_)
    refine WCs (fun mD bQ => ?_)
    refine WCg (WLq 1 [(10, .slice none 0 0)] (WLd rfl (QXn (bQ _ _ ?_))))
    refine WCs (fun mE bR => ?_)
    refine WCg ?_
    refine WL.newM dW (fun b => .pointer (some ⟨b, 0, none⟩)) (.cells #[.int .u32 0, .int .i64 0, .int .u32 0, .int .i64 0] 50) 11 (fun _ => by kernel_rfl) (fun bS lL me bm d0 => ?_)
    have d1 := own_fr S_m131 bm (by simp)
    have d2 := own_fr N_m131 bm (by simp)
    have d3 := own_fr K_m131 bm (by simp)
    have d4 := svcsIn.fr in_m131 bm (by simp)
    have d5 := own_fr row82_m131 bm (by simp)
    have d6 := own_fr bK bm (by simp)
    refine WLd rfl (QXn (bR _ _ ?_))
    refine WCs (fun mF bT => ?_)
    refine WCg (WLq 1 [(12, .nilIface)] (WLd rfl (QXn (bT _ _ ?_))))
    refine WCs (fun mG bn => ?_)
    refine WCs (fun mH bU => ?_)
    refine WCg (WLq 3 [(81, .bool (decide ((n5 : Int) > 0))), (80, .int .i64 (n5 : Int)), (79, .slice A5 n5 c5)] (WLd rfl (QXn (bU _ _ ?_))))
    refine WCa 81 (decide ((n5 : Int) > 0)) rfl (fun dd => ?_) (fun dd => ?_)
    ·
     have lM : (0 : Int) < (n5 : Int) := by have q_ := of_decide_eq_true dd; omega
     refine WCt rfl ?_
     refine WCs (fun mI de => ?_)
     refine WCg (WLq 1 [(82, .slice A5 n5 c5)] ?_)
     have hmn_ := own_count encL_len (by decide) d6
     refine WLc rfl rfl rfl rfl rfl (by kernel_rfl) (Min_n A5 n5 c5 (oldL V (outV V.snats dip) dip) lL (own_rd d6 encL_len (by decide)) hmn_ (by omega) (by omega)) ?_
     rintro _ mJ ⟨rfl, bo⟩
     refine ⟨_, rfl, ?_⟩
     have gv := d0.call bo
     have gw := own_fr d1 bo (by simp)
     have gx := own_fr d2 bo (by simp)
     have gy := own_fr d3 bo (by simp)
     have gz := svcsIn.fr d4 bo (by simp)
     have gA := own_fr d5 bo (by simp)
     refine WL.newM gv (fun b => .pointer (some ⟨b, 0, none⟩)) (.cells #[.int .u32 0, .int .i64 0, .int .u32 0, .int .i64 0] 50) 13 (fun _ => by kernel_rfl) (fun e8 mK mf bV bp => ?_)
     have gB := own_fr gw bV (by simp)
     have gC := own_fr gx bV (by simp)
     have gD := own_fr gy bV (by simp)
     have gE := svcsIn.fr gz bV (by simp)
     have gF := own_fr gA bV (by simp)
     refine WLs (c' := #[.int .u32 ((minL (oldL V (outV V.snats dip) dip)).vip), .int .i64 ((minL (oldL V (outV V.snats dip) dip)).first), .int .u32 ((minL (oldL V (outV V.snats dip) dip)).dip), .int .i64 ((minL (oldL V (outV V.snats dip) dip)).exp)]) bp 3 50 e8 0 (.agg #[.int .u32 ((minL (oldL V (outV V.snats dip) dip)).vip), .int .i64 ((minL (oldL V (outV V.snats dip) dip)).first), .int .u32 ((minL (oldL V (outV V.snats dip) dip)).dip), .int .i64 ((minL (oldL V (outV V.snats dip) dip)).exp)]) (by kernel_rfl) rfl (by kernel_rfl) (fun mL bW gG => ?_)
     have gH := own_fr gB bW (bp.apartM 0 3 rfl rfl)
     have gI := own_fr gC bW (bp.apartM 1 3 rfl rfl)
     have gJ := own_fr gD bW (bp.apartM 2 3 rfl rfl)
     have gK := svcsIn.fr gE bW (bp.apartM 4 3 rfl rfl)
     have gL := own_fr gF bW (bp.apartM 5 3 rfl rfl)
     refine WLd rfl (QXn (de _ _ ?_))
     refine WC.drawC gG [bS] (by kernel_rfl) (fun lN bX bq ae => ?_)
     have gM := own_fr gH bX (by simp)
     have gN := own_fr gI bX (by simp)
     have gO := own_fr gJ bX (by simp)
     have gP := svcsIn.fr gK bX (by simp)
     have d7 := own_fr gL bX (by simp)
     refine WDq (NPt hN) 0 85 (.pointer (some ⟨p, 0, none⟩)) ae ?_
     refine WDq (NPt hN) 1 86 (.pointer (some ⟨p, 0, none⟩)) ae ?_
     refine WDq (NPt hN) 2 87 (.pointer (some ⟨p, 0, none⟩)) ae ?_
     refine WDq (NPt hN) 3 88 (.pointer (some ⟨p, 5, none⟩)) ae ?_
     refine WDq (NPt hN) 5 90 (.int .u32 (outV V.snats dip)) ae ?_
     refine WDq (NPt hN) 6 91 (.pointer (some ⟨e8, 1, none⟩)) ae ?_
     refine WDq (NPt hN) 8 93 (.int .u32 dip) ae ?_
     refine WDq (NPt hN) 9 94 (.pointer (some ⟨p, 0, none⟩)) ae ?_
     refine WDq (NPt hN) 10 95 (.pointer (some ⟨p, 0, none⟩)) ae ?_
     refine WDq (NPt hN) 11 96 (.pointer (some ⟨p, 0, none⟩)) ae ?_
     refine WDq (NPt hN) 12 97 (.pointer (some ⟨p, 1, none⟩)) ae ?_
     refine WDm (NPt hN) 4 29 (.pointer (some ⟨p, 5, none⟩)) (.slice cV ((V.leases.filter (pruneP V.now)).length) cW) 89 (fun _ hS_ => run_ld (Fr.has hS_ (bq.get 0 rfl) (by simpa using bq.ne 0 2 rfl rfl (by decide))) rfl) ae ?_
     refine WDm (NPt hN) 7 3 (.pointer (some ⟨e8, 1, none⟩)) (.int .i64 ((minL (oldL V (outV V.snats dip) dip)).first)) 92 (fun _ hS_ => run_ld (Fr.has hS_ (bq.get 3 rfl) (by simpa using bq.ne 3 2 rfl rfl (by decide))) rfl) ae ?_
     refine WD.sem 13 (Instr.loadAt 3 (.pointer (some ⟨p, 1, none⟩))) 98 (.int .i64 V.now) (by kernel_rfl) (by kernel_rfl) (run_ld (bq.get 0 rfl) rfl) ae ?_
     refine WD.call 14 (by kernel_rfl) rfl rfl rfl rfl rfl (by kernel_rfl) (Renew_ct cV cW (V.leases.filter (pruneP V.now)) (outV V.snats dip) ((minL (oldL V (outV V.snats dip) dip)).first) dip V.now lN (own_rd d7 encL_len (by decide)) (fun l_ h_ => hw.lok l_ (List.mem_filter.1 h_).1) (by omega)) ?_
     rintro _ mM ⟨v_, rfl, aM, cx⟩
     have aN := bq.callN aM (own_ge cx) (own_lt cx)
     obtain ⟨cI, cJ, rfl, lO⟩ := own_form cx
     have gQ := own_base (b' := 0) cx (fun _ _ => Nat.zero_le _)
     have aw := ae.trans aM (by simp)
     refine ⟨_, rfl, aw, ?_⟩
     have gR := own_fr gM aM (by simp)
     have gS := own_fr gN aM (by simp)
     have gT := own_fr gO aM (by simp)
     have gU := svcsIn.fr gP aM (by simp)
     have gV := own_fr d7 aM (by simp)
     refine WDq (NPt hN) 15 84 (.tuple #[.slice cI ((rnX (V.leases.filter (pruneP V.now)) (outV V.snats dip) ((minL (oldL V (outV V.snats dip) dip)).first) dip V.now).length) cJ, .agg #[.int .u32 ((rnL (V.leases.filter (pruneP V.now)) (outV V.snats dip) ((minL (oldL V (outV V.snats dip) dip)).first) dip V.now).vip), .int .i64 ((rnL (V.leases.filter (pruneP V.now)) (outV V.snats dip) ((minL (oldL V (outV V.snats dip) dip)).first) dip V.now).first), .int .u32 ((rnL (V.leases.filter (pruneP V.now)) (outV V.snats dip) ((minL (oldL V (outV V.snats dip) dip)).first) dip V.now).dip), .int .i64 ((rnL (V.leases.filter (pruneP V.now)) (outV V.snats dip) ((minL (oldL V (outV V.snats dip) dip)).first) dip V.now).exp)], errV 118 (rnE (V.leases.filter (pruneP V.now)) (outV V.snats dip) ((minL (oldL V (outV V.snats dip) dip)).first) dip V.now)]) aw ?_
     refine WDq (NPt hN) 16 100 (.slice cI ((rnX (V.leases.filter (pruneP V.now)) (outV V.snats dip) ((minL (oldL V (outV V.snats dip) dip)).first) dip V.now).length) cJ) aw ?_
     refine WDq (NPt hN) 17 101 (.agg #[.int .u32 ((rnL (V.leases.filter (pruneP V.now)) (outV V.snats dip) ((minL (oldL V (outV V.snats dip) dip)).first) dip V.now).vip), .int .i64 ((rnL (V.leases.filter (pruneP V.now)) (outV V.snats dip) ((minL (oldL V (outV V.snats dip) dip)).first) dip V.now).first), .int .u32 ((rnL (V.leases.filter (pruneP V.now)) (outV V.snats dip) ((minL (oldL V (outV V.snats dip) dip)).first) dip V.now).dip), .int .i64 ((rnL (V.leases.filter (pruneP V.now)) (outV V.snats dip) ((minL (oldL V (outV V.snats dip) dip)).first) dip V.now).exp)]) aw ?_
     refine WDq (NPt hN) 18 102 (errV 118 (rnE (V.leases.filter (pruneP V.now)) (outV V.snats dip) ((minL (oldL V (outV V.snats dip) dip)).first) dip V.now)) aw ?_
     refine WDq (NPt hN) 19 10 (.slice cI ((rnX (V.leases.filter (pruneP V.now)) (outV V.snats dip) ((minL (oldL V (outV V.snats dip) dip)).first) dip V.now).length) cJ) aw ?_
     obtain ⟨lP, gW, aO, aP⟩ := sto_run (c' := #[.int .u32 ((rnL (V.leases.filter (pruneP V.now)) (outV V.snats dip) ((minL (oldL V (outV V.snats dip) dip)).first) dip V.now).vip), .int .i64 ((rnL (V.leases.filter (pruneP V.now)) (outV V.snats dip) ((minL (oldL V (outV V.snats dip) dip)).first) dip V.now).first), .int .u32 ((rnL (V.leases.filter (pruneP V.now)) (outV V.snats dip) ((minL (oldL V (outV V.snats dip) dip)).first) dip V.now).dip), .int .i64 ((rnL (V.leases.filter (pruneP V.now)) (outV V.snats dip) ((minL (oldL V (outV V.snats dip) dip)).first) dip V.now).exp)]) Tryz.prog aN 2 50 bS 0 (.agg #[.int .u32 ((rnL (V.leases.filter (pruneP V.now)) (outV V.snats dip) ((minL (oldL V (outV V.snats dip) dip)).first) dip V.now).vip), .int .i64 ((rnL (V.leases.filter (pruneP V.now)) (outV V.snats dip) ((minL (oldL V (outV V.snats dip) dip)).first) dip V.now).first), .int .u32 ((rnL (V.leases.filter (pruneP V.now)) (outV V.snats dip) ((minL (oldL V (outV V.snats dip) dip)).first) dip V.now).dip), .int .i64 ((rnL (V.leases.filter (pruneP V.now)) (outV V.snats dip) ((minL (oldL V (outV V.snats dip) dip)).first) dip V.now).exp)]) rfl (by kernel_rfl)
     have d8 := aw.trans aO (by first | (simp; done) | (simp [*]; done) | (have q_ := aw.size; simp; omega))
     refine WD.semU 20 (Instr.storeAt 50 (.pointer (some ⟨bS, 0, none⟩)) (.agg #[.int .u32 ((rnL (V.leases.filter (pruneP V.now)) (outV V.snats dip) ((minL (oldL V (outV V.snats dip) dip)).first) dip V.now).vip), .int .i64 ((rnL (V.leases.filter (pruneP V.now)) (outV V.snats dip) ((minL (oldL V (outV V.snats dip) dip)).first) dip V.now).first), .int .u32 ((rnL (V.leases.filter (pruneP V.now)) (outV V.snats dip) ((minL (oldL V (outV V.snats dip) dip)).first) dip V.now).dip), .int .i64 ((rnL (V.leases.filter (pruneP V.now)) (outV V.snats dip) ((minL (oldL V (outV V.snats dip) dip)).first) dip V.now).exp)])) (by kernel_rfl) (by kernel_rfl) gW d8 ?_
     have d9 := own_fr gR aO (aN.apartM 0 2 rfl rfl)
     have ea := own_fr gS aO (aN.apartM 1 2 rfl rfl)
     have eb := own_fr gT aO (aN.apartM 2 2 rfl rfl)
     have ec := svcsIn.fr gU aO (aN.apartM 4 2 rfl rfl)
     have gX := own_fr gV aO (aN.apartM 5 2 rfl rfl)
     have gY := own_fr gQ aO (aN.apartM 8 2 rfl rfl)
     refine WDq (NPt hN) 21 12 (errV 118 (rnE (V.leases.filter (pruneP V.now)) (outV V.snats dip) ((minL (oldL V (outV V.snats dip) dip)).first) dip V.now)) d8 ?_
     refine WD.done (by kernel_rfl) ?_
     refine QXn (bn _ _ ?_)
     refine WCs (fun mN df => ?_)
     refine WCs (fun mO dg => ?_)
     refine WCg (WLq 1 [(120, errV 118 (rnE (V.leases.filter (pruneP V.now)) (outV V.snats dip) ((minL (oldL V (outV V.snats dip) dip)).first) dip V.now))] ?_)
     have gZ : ∀ w_, Sem.run Tryz.prog (do eqGuard .neq 97 (Operand.tmp 120) (Operand.const (.nilIface)) (errV 118 (rnE (V.leases.filter (pruneP V.now)) (outV V.snats dip) ((minL (oldL V (outV V.snats dip) dip)).first) dip V.now)) (.nilIface); binOp .neq 97 (errV 118 (rnE (V.leases.filter (pruneP V.now)) (outV V.snats dip) ((minL (oldL V (outV V.snats dip) dip)).first) dip V.now)) (.nilIface)) w_ = .ok (.bool (!(decide (rnE (V.leases.filter (pruneP V.now)) (outV V.snats dip) ((minL (oldL V (outV V.snats dip) dip)).first) dip V.now = 0)))) w_ := fun w_ => (err_neq _ (rnE (V.leases.filter (pruneP V.now)) (outV V.snats dip) ((minL (oldL V (outV V.snats dip) dip)).first) dip V.now) (decide (rnE (V.leases.filter (pruneP V.now)) (outV V.snats dip) ((minL (oldL V (outV V.snats dip) dip)).first) dip V.now = 0)) (by rfl) _)
     refine WL.sem (do eqGuard .neq 97 (Operand.tmp 120) (Operand.const (.nilIface)) (errV 118 (rnE (V.leases.filter (pruneP V.now)) (outV V.snats dip) ((minL (oldL V (outV V.snats dip) dip)).first) dip V.now)) (.nilIface); binOp .neq 97 (errV 118 (rnE (V.leases.filter (pruneP V.now)) (outV V.snats dip) ((minL (oldL V (outV V.snats dip) dip)).first) dip V.now)) (.nilIface)) 121 (.bool (!(decide (rnE (V.leases.filter (pruneP V.now)) (outV V.snats dip) ((minL (oldL V (outV V.snats dip) dip)).first) dip V.now = 0)))) (by kernel_rfl) (gZ _) ?_
     refine WLd rfl (QXn (dg _ _ ?_))
     refine WCa 121 (!(decide (rnE (V.leases.filter (pruneP V.now)) (outV V.snats dip) ((minL (oldL V (outV V.snats dip) dip)).first) dip V.now = 0))) rfl (fun aQ => ?_) (fun aQ => ?_)
     ·
      have lQ : (decide (rnE (V.leases.filter (pruneP V.now)) (outV V.snats dip) ((minL (oldL V (outV V.snats dip) dip)).first) dip V.now = 0)) = false := by first | (simpa only [Bool.not_eq_true', Bool.not_eq_false'] using aQ) | simpa using aQ
      refine WCt rfl ?_
      refine WCs (fun mP ed => ?_)
      refine WCg (WLq 1 [(122, errV 118 (rnE (V.leases.filter (pruneP V.now)) (outV V.snats dip) ((minL (oldL V (outV V.snats dip) dip)).first) dip V.now))] ?_)
      refine WLc rfl rfl rfl rfl rfl (by kernel_rfl) (result_ct (rnE (V.leases.filter (pruneP V.now)) (outV V.snats dip) ((minL (oldL V (outV V.snats dip) dip)).first) dip V.now) lP) ?_
      rintro _ mQ ⟨rfl, br⟩
      refine ⟨_, rfl, ?_⟩
      have bs := aP.call br
      have g0 := own_fr d9 br (by simp)
      have g1 := own_fr ea br (by simp)
      have g2 := own_fr eb br (by simp)
      have g4 := svcsIn.fr ec br (by simp)
      have g5 := own_fr gX br (by simp)
      refine WLs (c' := #[.int .i64 (rnE (V.leases.filter (pruneP V.now)) (outV V.snats dip) ((minL (oldL V (outV V.snats dip) dip)).first) dip V.now), .int .u32 0, .int .i64 0, .int .u32 0, .int .i64 0]) bs 1 52 g3 0 (.agg #[.int .i64 (rnE (V.leases.filter (pruneP V.now)) (outV V.snats dip) ((minL (oldL V (outV V.snats dip) dip)).first) dip V.now), .int .u32 0, .int .i64 0, .int .u32 0, .int .i64 0]) (by kernel_rfl) rfl (by kernel_rfl) (fun mR bY ee => ?_)
      have g6 := own_fr g0 bY (bs.apartM 0 1 rfl rfl)
      have g7 := own_fr g1 bY (bs.apartM 1 1 rfl rfl)
      have g8 := own_fr g2 bY (bs.apartM 2 1 rfl rfl)
      have g9 := svcsIn.fr g4 bY (bs.apartM 4 1 rfl rfl)
      have hb := own_fr g5 bY (bs.apartM 5 1 rfl rfl)
      refine WLd rfl (QXn (ed _ _ ?_))
      refine WC.ret ?_
      refine QXr ?_
      refine (hret' _ _ (.agg #[.int .i64 (rnE (V.leases.filter (pruneP V.now)) (outV V.snats dip) ((minL (oldL V (outV V.snats dip) dip)).first) dip V.now), .int .u32 0, .int .i64 0, .int .u32 0, .int .i64 0]) (fun a ha => ?_) ?_).1
      ·
       exact res_run ha ((ResR.cell rfl (run_ld (ee.get 1 rfl) rfl) ResR.nil)) rfl
      clear hN hret hret' ed dg df de bU bn bT bR bQ bO bN c0 cZ cY bh bg bf be hK2
      have hE_ : lendE V (outV V.snats dip) dip = rnE (leaL V) (outV V.snats dip) (minL (oldL V (outV V.snats dip) dip)).first dip V.now := by unfold lendE; rw [if_neg (fun e_ => by rw [e_] at hon_; simp at hon_; omega)]
      have hL_ : lendL V (outV V.snats dip) dip = rnL (leaL V) (outV V.snats dip) (minL (oldL V (outV V.snats dip) dip)).first dip V.now := by unfold lendL; rw [if_neg (fun e_ => by rw [e_] at hon_; simp at hon_; omega)]
      have hX_ : lendX V (outV V.snats dip) dip = rnX (leaL V) (outV V.snats dip) (minL (oldL V (outV V.snats dip) dip)).first dip V.now := by unfold lendX; rw [if_neg (fun e_ => by rw [e_] at hon_; simp at hon_; omega)]
      have hz_ : ¬ rnE (leaL V) (outV V.snats dip) (minL (oldL V (outV V.snats dip) dip)).first dip V.now = 0 := (by have q_ := aQ; simpa [leaL] using q_)
      have hR_ : leaseR V dip = ⟨rnE (leaL V) (outV V.snats dip) (minL (oldL V (outV V.snats dip) dip)).first dip V.now, noL⟩ := by unfold leaseR; rw [if_neg (by rw [aG]; decide)]; rw [hE_, if_neg hz_]
      have hV_ : leaseC V dip = { V with leases := leaL V } := by unfold leaseC; rw [if_neg (by rw [aG]; decide)]; rw [hE_, if_neg hz_]
      rw [hR_, hV_]
      have hc := Cx.pickM ee [0] [0, 1, 2, 4, 5] (by decide) rfl rfl
      have he := Cx_sw5 hc
      obtain ⟨hf, e9, dH⟩ := cfg_close (V := { V with leases := leaL V }) (xs := xs) he g6 g7 g8 hb g9 hvals
      exact ⟨_, rfl, e9, hf, dH⟩
     ·
      have lQ : (decide (rnE (V.leases.filter (pruneP V.now)) (outV V.snats dip) ((minL (oldL V (outV V.snats dip) dip)).first) dip V.now = 0)) = true := by first | (simpa only [Bool.not_eq_true', Bool.not_eq_false'] using aQ) | simpa using aQ
      refine WCf rfl (WC.skip (QXn (df _ _ ?_)))
      refine WCs (fun mS ef => ?_)
      refine WCg (WLq 5 [(128, .pointer (some ⟨p, 5, none⟩)), (127, .pointer (some ⟨p, 0, none⟩)), (126, .pointer (some ⟨p, 0, none⟩)), (125, .slice cI ((rnX (V.leases.filter (pruneP V.now)) (outV V.snats dip) ((minL (oldL V (outV V.snats dip) dip)).first) dip V.now).length) cJ), (124, .pointer (some ⟨p, 0, none⟩))] ?_)
      refine WLs (c' := #[.int .i64 V.epoch, .int .i64 V.now, .slice AS xs.length cS, .slice AN V.snats.length cN, .slice AK V.sick.length cK, .slice cI ((rnX (V.leases.filter (pruneP V.now)) (outV V.snats dip) ((minL (oldL V (outV V.snats dip) dip)).first) dip V.now).length) cJ]) aP 0 29 p 5 (.slice cI ((rnX (V.leases.filter (pruneP V.now)) (outV V.snats dip) ((minL (oldL V (outV V.snats dip) dip)).first) dip V.now).length) cJ) (by kernel_rfl) rfl (by kernel_rfl) (fun mT bZ aR => ?_)
      have hh := own_fr d9 bZ (aP.apartM 0 0 rfl rfl)
      have hi := own_fr ea bZ (aP.apartM 1 0 rfl rfl)
      have hj := own_fr eb bZ (aP.apartM 2 0 rfl rfl)
      have hl := svcsIn.fr ec bZ (aP.apartM 4 0 rfl rfl)
      have hm := own_fr gY bZ (aP.apartM 8 0 rfl rfl)
      refine WLd rfl (QXn (ef _ _ ?_))
      refine WCs (fun mU eg => ?_)
      refine WCg ?_
      refine WLo 50 (.pointer (some ⟨bS, 0, none⟩)) (.agg #[.int .u32 ((rnL (V.leases.filter (pruneP V.now)) (outV V.snats dip) ((minL (oldL V (outV V.snats dip) dip)).first) dip V.now).vip), .int .i64 ((rnL (V.leases.filter (pruneP V.now)) (outV V.snats dip) ((minL (oldL V (outV V.snats dip) dip)).first) dip V.now).first), .int .u32 ((rnL (V.leases.filter (pruneP V.now)) (outV V.snats dip) ((minL (oldL V (outV V.snats dip) dip)).first) dip V.now).dip), .int .i64 ((rnL (V.leases.filter (pruneP V.now)) (outV V.snats dip) ((minL (oldL V (outV V.snats dip) dip)).first) dip V.now).exp)]) 129 (run_ld (aR.get 2 rfl) rfl) ?_
      refine WLq 1 [(130, .agg #[.int .i64 0, .int .u32 ((rnL (V.leases.filter (pruneP V.now)) (outV V.snats dip) ((minL (oldL V (outV V.snats dip) dip)).first) dip V.now).vip), .int .i64 ((rnL (V.leases.filter (pruneP V.now)) (outV V.snats dip) ((minL (oldL V (outV V.snats dip) dip)).first) dip V.now).first), .int .u32 ((rnL (V.leases.filter (pruneP V.now)) (outV V.snats dip) ((minL (oldL V (outV V.snats dip) dip)).first) dip V.now).dip), .int .i64 ((rnL (V.leases.filter (pruneP V.now)) (outV V.snats dip) ((minL (oldL V (outV V.snats dip) dip)).first) dip V.now).exp)])] ?_
      refine WLs (c' := #[.int .i64 0, .int .u32 ((rnL (V.leases.filter (pruneP V.now)) (outV V.snats dip) ((minL (oldL V (outV V.snats dip) dip)).first) dip V.now).vip), .int .i64 ((rnL (V.leases.filter (pruneP V.now)) (outV V.snats dip) ((minL (oldL V (outV V.snats dip) dip)).first) dip V.now).first), .int .u32 ((rnL (V.leases.filter (pruneP V.now)) (outV V.snats dip) ((minL (oldL V (outV V.snats dip) dip)).first) dip V.now).dip), .int .i64 ((rnL (V.leases.filter (pruneP V.now)) (outV V.snats dip) ((minL (oldL V (outV V.snats dip) dip)).first) dip V.now).exp)]) aR 1 52 g3 0 (.agg #[.int .i64 0, .int .u32 ((rnL (V.leases.filter (pruneP V.now)) (outV V.snats dip) ((minL (oldL V (outV V.snats dip) dip)).first) dip V.now).vip), .int .i64 ((rnL (V.leases.filter (pruneP V.now)) (outV V.snats dip) ((minL (oldL V (outV V.snats dip) dip)).first) dip V.now).first), .int .u32 ((rnL (V.leases.filter (pruneP V.now)) (outV V.snats dip) ((minL (oldL V (outV V.snats dip) dip)).first) dip V.now).dip), .int .i64 ((rnL (V.leases.filter (pruneP V.now)) (outV V.snats dip) ((minL (oldL V (outV V.snats dip) dip)).first) dip V.now).exp)]) (by kernel_rfl) rfl (by kernel_rfl) (fun mV b0 eh => ?_)
      have ho := own_fr hh b0 (aR.apartM 0 1 rfl rfl)
      have hp := own_fr hi b0 (aR.apartM 1 1 rfl rfl)
      have hq := own_fr hj b0 (aR.apartM 2 1 rfl rfl)
      have hr := svcsIn.fr hl b0 (aR.apartM 4 1 rfl rfl)
      have hs := own_fr hm b0 (aR.apartM 8 1 rfl rfl)
      refine WLd rfl (QXn (eg _ _ ?_))
      refine WC.ret ?_
      refine (hret' _ _ (.agg #[.int .i64 0, .int .u32 ((rnL (V.leases.filter (pruneP V.now)) (outV V.snats dip) ((minL (oldL V (outV V.snats dip) dip)).first) dip V.now).vip), .int .i64 ((rnL (V.leases.filter (pruneP V.now)) (outV V.snats dip) ((minL (oldL V (outV V.snats dip) dip)).first) dip V.now).first), .int .u32 ((rnL (V.leases.filter (pruneP V.now)) (outV V.snats dip) ((minL (oldL V (outV V.snats dip) dip)).first) dip V.now).dip), .int .i64 ((rnL (V.leases.filter (pruneP V.now)) (outV V.snats dip) ((minL (oldL V (outV V.snats dip) dip)).first) dip V.now).exp)]) (fun a ha => ?_) ?_).1
      ·
       exact res_run ha ((ResR.cell rfl (run_ld (eh.get 1 rfl) rfl) ResR.nil)) rfl
      clear hN hret hret' eg ef dg df de bU bn bT bR bQ bO bN c0 cZ cY bh bg bf be hK2
      have hE_ : lendE V (outV V.snats dip) dip = rnE (leaL V) (outV V.snats dip) (minL (oldL V (outV V.snats dip) dip)).first dip V.now := by unfold lendE; rw [if_neg (fun e_ => by rw [e_] at hon_; simp at hon_; omega)]
      have hL_ : lendL V (outV V.snats dip) dip = rnL (leaL V) (outV V.snats dip) (minL (oldL V (outV V.snats dip) dip)).first dip V.now := by unfold lendL; rw [if_neg (fun e_ => by rw [e_] at hon_; simp at hon_; omega)]
      have hX_ : lendX V (outV V.snats dip) dip = rnX (leaL V) (outV V.snats dip) (minL (oldL V (outV V.snats dip) dip)).first dip V.now := by unfold lendX; rw [if_neg (fun e_ => by rw [e_] at hon_; simp at hon_; omega)]
      have hz_ : rnE (leaL V) (outV V.snats dip) (minL (oldL V (outV V.snats dip) dip)).first dip V.now = 0 := (by have q_ := aQ; simpa [leaL] using q_)
      have hR_ : leaseR V dip = ⟨0, rnL (leaL V) (outV V.snats dip) (minL (oldL V (outV V.snats dip) dip)).first dip V.now⟩ := by unfold leaseR; rw [if_neg (by rw [aG]; decide)]; rw [hE_, if_pos hz_, hL_, hz_]
      have hV_ : leaseC V dip = { V with leases := rnX (leaL V) (outV V.snats dip) (minL (oldL V (outV V.snats dip) dip)).first dip V.now } := by unfold leaseC; rw [if_neg (by rw [aG]; decide)]; rw [hE_, if_pos hz_, hX_]
      rw [hR_, hV_]
      have ht := Cx.pickM eh [0] [0, 1, 2, 4, 8] (by decide) rfl rfl
      have hv := Cx_sw5 ht
      obtain ⟨hx, fa, dI⟩ := cfg_close (V := { V with leases := rnX (leaL V) (outV V.snats dip) (minL (oldL V (outV V.snats dip) dip)).first dip V.now }) (xs := xs) hv ho hp hq hs hr hvals
      exact ⟨_, rfl, fa, hx, dI⟩
    ·
     have lM : (n5 : Int) ≤ 0 := by have q_ := of_decide_eq_false dd; omega
     refine WCf rfl ?_
     refine WC.drawC d0 [bS] (by kernel_rfl) (fun lR b1 b2 ah => ?_)
     have hy := own_fr d1 b1 (by simp)
     have hz := own_fr d2 b1 (by simp)
     have hA := own_fr d3 b1 (by simp)
     have hB := svcsIn.fr d4 b1 (by simp)
     have ei := own_fr d5 b1 (by simp)
     refine WDq (NPt hN) 0 104 (.pointer (some ⟨p, 0, none⟩)) ah ?_
     refine WDq (NPt hN) 1 105 (.pointer (some ⟨p, 0, none⟩)) ah ?_
     refine WDq (NPt hN) 2 106 (.pointer (some ⟨p, 0, none⟩)) ah ?_
     refine WDq (NPt hN) 3 107 (.pointer (some ⟨p, 5, none⟩)) ah ?_
     refine WDq (NPt hN) 5 109 (.int .u32 (outV V.snats dip)) ah ?_
     refine WDq (NPt hN) 6 110 (.int .u32 dip) ah ?_
     refine WDq (NPt hN) 7 111 (.pointer (some ⟨p, 0, none⟩)) ah ?_
     refine WDq (NPt hN) 8 112 (.pointer (some ⟨p, 0, none⟩)) ah ?_
     refine WDq (NPt hN) 9 113 (.pointer (some ⟨p, 0, none⟩)) ah ?_
     refine WDq (NPt hN) 10 114 (.pointer (some ⟨p, 1, none⟩)) ah ?_
     refine WDm (NPt hN) 4 29 (.pointer (some ⟨p, 5, none⟩)) (.slice cV ((V.leases.filter (pruneP V.now)).length) cW) 108 (fun _ hS_ => run_ld (Fr.has hS_ (b2.get 0 rfl) (by simpa using b2.ne 0 2 rfl rfl (by decide))) rfl) ah ?_
     refine WD.sem 11 (Instr.loadAt 3 (.pointer (some ⟨p, 1, none⟩))) 115 (.int .i64 V.now) (by kernel_rfl) (by kernel_rfl) (run_ld (b2.get 0 rfl) rfl) ah ?_
     refine WD.call 12 (by kernel_rfl) rfl rfl rfl rfl rfl (by kernel_rfl) (Grant_ct cV cW (V.leases.filter (pruneP V.now)) (outV V.snats dip) dip V.now lR (own_rd ei encL_len (by decide)) (fun l_ h_ => hw.lok l_ (List.mem_filter.1 h_).1) (by omega) hvip_ hd (hg.frN b2.fr (fun b_ off_ e_ => by cases e_; exact h0))) ?_
     rintro _ mW ⟨v_, rfl, aS, cy⟩
     have aT := b2.callN aS (own_ge cy) (own_lt cy)
     obtain ⟨cM, cO, rfl, lS⟩ := own_form cy
     have hD := own_base (b' := 0) cy (fun _ _ => Nat.zero_le _)
     have ax := ah.trans aS (by simp)
     refine ⟨_, rfl, ax, ?_⟩
     have hE := own_fr hy aS (by simp)
     have hF := own_fr hz aS (by simp)
     have hG := own_fr hA aS (by simp)
     have hH := svcsIn.fr hB aS (by simp)
     have hI := own_fr ei aS (by simp)
     refine WDq (NPt hN) 13 103 (.tuple #[.slice cM ((grX (V.leases.filter (pruneP V.now)) (outV V.snats dip) dip V.now).length) cO, .agg #[.int .u32 ((grL (V.leases.filter (pruneP V.now)) (outV V.snats dip) dip V.now).vip), .int .i64 ((grL (V.leases.filter (pruneP V.now)) (outV V.snats dip) dip V.now).first), .int .u32 ((grL (V.leases.filter (pruneP V.now)) (outV V.snats dip) dip V.now).dip), .int .i64 ((grL (V.leases.filter (pruneP V.now)) (outV V.snats dip) dip V.now).exp)], errV 118 (grE (V.leases.filter (pruneP V.now)) (outV V.snats dip) dip V.now)]) ax ?_
     refine WDq (NPt hN) 14 117 (.slice cM ((grX (V.leases.filter (pruneP V.now)) (outV V.snats dip) dip V.now).length) cO) ax ?_
     refine WDq (NPt hN) 15 118 (.agg #[.int .u32 ((grL (V.leases.filter (pruneP V.now)) (outV V.snats dip) dip V.now).vip), .int .i64 ((grL (V.leases.filter (pruneP V.now)) (outV V.snats dip) dip V.now).first), .int .u32 ((grL (V.leases.filter (pruneP V.now)) (outV V.snats dip) dip V.now).dip), .int .i64 ((grL (V.leases.filter (pruneP V.now)) (outV V.snats dip) dip V.now).exp)]) ax ?_
     refine WDq (NPt hN) 16 119 (errV 118 (grE (V.leases.filter (pruneP V.now)) (outV V.snats dip) dip V.now)) ax ?_
     refine WDq (NPt hN) 17 10 (.slice cM ((grX (V.leases.filter (pruneP V.now)) (outV V.snats dip) dip V.now).length) cO) ax ?_
     obtain ⟨lT, hJ, aU, aV⟩ := sto_run (c' := #[.int .u32 ((grL (V.leases.filter (pruneP V.now)) (outV V.snats dip) dip V.now).vip), .int .i64 ((grL (V.leases.filter (pruneP V.now)) (outV V.snats dip) dip V.now).first), .int .u32 ((grL (V.leases.filter (pruneP V.now)) (outV V.snats dip) dip V.now).dip), .int .i64 ((grL (V.leases.filter (pruneP V.now)) (outV V.snats dip) dip V.now).exp)]) Tryz.prog aT 2 50 bS 0 (.agg #[.int .u32 ((grL (V.leases.filter (pruneP V.now)) (outV V.snats dip) dip V.now).vip), .int .i64 ((grL (V.leases.filter (pruneP V.now)) (outV V.snats dip) dip V.now).first), .int .u32 ((grL (V.leases.filter (pruneP V.now)) (outV V.snats dip) dip V.now).dip), .int .i64 ((grL (V.leases.filter (pruneP V.now)) (outV V.snats dip) dip V.now).exp)]) rfl (by kernel_rfl)
     have ej := ax.trans aU (by first | (simp; done) | (simp [*]; done) | (have q_ := ax.size; simp; omega))
     refine WD.semU 18 (Instr.storeAt 50 (.pointer (some ⟨bS, 0, none⟩)) (.agg #[.int .u32 ((grL (V.leases.filter (pruneP V.now)) (outV V.snats dip) dip V.now).vip), .int .i64 ((grL (V.leases.filter (pruneP V.now)) (outV V.snats dip) dip V.now).first), .int .u32 ((grL (V.leases.filter (pruneP V.now)) (outV V.snats dip) dip V.now).dip), .int .i64 ((grL (V.leases.filter (pruneP V.now)) (outV V.snats dip) dip V.now).exp)])) (by kernel_rfl) (by kernel_rfl) hJ ej ?_
     have ek := own_fr hE aU (aT.apartM 0 2 rfl rfl)
     have el := own_fr hF aU (aT.apartM 1 2 rfl rfl)
     have em := own_fr hG aU (aT.apartM 2 2 rfl rfl)
     have en := svcsIn.fr hH aU (aT.apartM 4 2 rfl rfl)
     have hK := own_fr hI aU (aT.apartM 5 2 rfl rfl)
     have hL := own_fr hD aU (aT.apartM 8 2 rfl rfl)
     refine WDq (NPt hN) 19 12 (errV 118 (grE (V.leases.filter (pruneP V.now)) (outV V.snats dip) dip V.now)) ej ?_
     refine WD.done (by kernel_rfl) ?_
     refine QXn (bn _ _ ?_)
     refine WCs (fun mX dh => ?_)
     refine WCs (fun mY di => ?_)
     refine WCg (WLq 1 [(120, errV 118 (grE (V.leases.filter (pruneP V.now)) (outV V.snats dip) dip V.now))] ?_)
     have hM : ∀ w_, Sem.run Tryz.prog (do eqGuard .neq 97 (Operand.tmp 120) (Operand.const (.nilIface)) (errV 118 (grE (V.leases.filter (pruneP V.now)) (outV V.snats dip) dip V.now)) (.nilIface); binOp .neq 97 (errV 118 (grE (V.leases.filter (pruneP V.now)) (outV V.snats dip) dip V.now)) (.nilIface)) w_ = .ok (.bool (!(decide (grE (V.leases.filter (pruneP V.now)) (outV V.snats dip) dip V.now = 0)))) w_ := fun w_ => (err_neq _ (grE (V.leases.filter (pruneP V.now)) (outV V.snats dip) dip V.now) (decide (grE (V.leases.filter (pruneP V.now)) (outV V.snats dip) dip V.now = 0)) (by rfl) _)
     refine WL.sem (do eqGuard .neq 97 (Operand.tmp 120) (Operand.const (.nilIface)) (errV 118 (grE (V.leases.filter (pruneP V.now)) (outV V.snats dip) dip V.now)) (.nilIface); binOp .neq 97 (errV 118 (grE (V.leases.filter (pruneP V.now)) (outV V.snats dip) dip V.now)) (.nilIface)) 121 (.bool (!(decide (grE (V.leases.filter (pruneP V.now)) (outV V.snats dip) dip V.now = 0)))) (by kernel_rfl) (hM _) ?_
     refine WLd rfl (QXn (di _ _ ?_))
     refine WCa 121 (!(decide (grE (V.leases.filter (pruneP V.now)) (outV V.snats dip) dip V.now = 0))) rfl (fun aW => ?_) (fun aW => ?_)
     ·
      have lU : (decide (grE (V.leases.filter (pruneP V.now)) (outV V.snats dip) dip V.now = 0)) = false := by first | (simpa only [Bool.not_eq_true', Bool.not_eq_false'] using aW) | simpa using aW
      refine WCt rfl ?_
      refine WCs (fun mZ eo => ?_)
      refine WCg (WLq 1 [(122, errV 118 (grE (V.leases.filter (pruneP V.now)) (outV V.snats dip) dip V.now))] ?_)
      refine WLc rfl rfl rfl rfl rfl (by kernel_rfl) (result_ct (grE (V.leases.filter (pruneP V.now)) (outV V.snats dip) dip V.now) lT) ?_
      rintro _ m0 ⟨rfl, bt⟩
      refine ⟨_, rfl, ?_⟩
      have bu := aV.call bt
      have hO := own_fr ek bt (by simp)
      have hP := own_fr el bt (by simp)
      have hQ := own_fr em bt (by simp)
      have hR := svcsIn.fr en bt (by simp)
      have hS := own_fr hK bt (by simp)
      refine WLs (c' := #[.int .i64 (grE (V.leases.filter (pruneP V.now)) (outV V.snats dip) dip V.now), .int .u32 0, .int .i64 0, .int .u32 0, .int .i64 0]) bu 1 52 g3 0 (.agg #[.int .i64 (grE (V.leases.filter (pruneP V.now)) (outV V.snats dip) dip V.now), .int .u32 0, .int .i64 0, .int .u32 0, .int .i64 0]) (by kernel_rfl) rfl (by kernel_rfl) (fun m1 b3 ep => ?_)
      have hT := own_fr hO b3 (bu.apartM 0 1 rfl rfl)
      have hU := own_fr hP b3 (bu.apartM 1 1 rfl rfl)
      have hV := own_fr hQ b3 (bu.apartM 2 1 rfl rfl)
      have hW := svcsIn.fr hR b3 (bu.apartM 4 1 rfl rfl)
      have hX := own_fr hS b3 (bu.apartM 5 1 rfl rfl)
      refine WLd rfl (QXn (eo _ _ ?_))
      refine WC.ret ?_
      refine QXr ?_
      refine (hret' _ _ (.agg #[.int .i64 (grE (V.leases.filter (pruneP V.now)) (outV V.snats dip) dip V.now), .int .u32 0, .int .i64 0, .int .u32 0, .int .i64 0]) (fun a ha => ?_) ?_).1
      ·
       exact res_run ha ((ResR.cell rfl (run_ld (ep.get 1 rfl) rfl) ResR.nil)) rfl
      clear hN hret hret' eo di dh bU bn bT bR bQ bO bN c0 cZ cY bh bg bf be hK2
      have hE_ : lendE V (outV V.snats dip) dip = grE (leaL V) (outV V.snats dip) dip V.now := by unfold lendE; rw [if_pos (List.eq_nil_of_length_eq_zero (by omega))]
      have hL_ : lendL V (outV V.snats dip) dip = grL (leaL V) (outV V.snats dip) dip V.now := by unfold lendL; rw [if_pos (List.eq_nil_of_length_eq_zero (by omega))]
      have hX_ : lendX V (outV V.snats dip) dip = grX (leaL V) (outV V.snats dip) dip V.now := by unfold lendX; rw [if_pos (List.eq_nil_of_length_eq_zero (by omega))]
      have hz_ : ¬ grE (leaL V) (outV V.snats dip) dip V.now = 0 := (by have q_ := aW; simpa [leaL] using q_)
      have hR_ : leaseR V dip = ⟨grE (leaL V) (outV V.snats dip) dip V.now, noL⟩ := by unfold leaseR; rw [if_neg (by rw [aG]; decide)]; rw [hE_, if_neg hz_]
      have hV_ : leaseC V dip = { V with leases := leaL V } := by unfold leaseC; rw [if_neg (by rw [aG]; decide)]; rw [hE_, if_neg hz_]
      rw [hR_, hV_]
      have hY := Cx.pickM ep [0] [0, 1, 2, 4, 5] (by decide) rfl rfl
      have hZ := Cx_sw5 hY
      obtain ⟨h1, fb, dJ⟩ := cfg_close (V := { V with leases := leaL V }) (xs := xs) hZ hT hU hV hX hW hvals
      exact ⟨_, rfl, fb, h1, dJ⟩
     ·
      have lU : (decide (grE (V.leases.filter (pruneP V.now)) (outV V.snats dip) dip V.now = 0)) = true := by first | (simpa only [Bool.not_eq_true', Bool.not_eq_false'] using aW) | simpa using aW
      refine WCf rfl (WC.skip (QXn (dh _ _ ?_)))
      refine WCs (fun m2 er => ?_)
      refine WCg (WLq 5 [(128, .pointer (some ⟨p, 5, none⟩)), (127, .pointer (some ⟨p, 0, none⟩)), (126, .pointer (some ⟨p, 0, none⟩)), (125, .slice cM ((grX (V.leases.filter (pruneP V.now)) (outV V.snats dip) dip V.now).length) cO), (124, .pointer (some ⟨p, 0, none⟩))] ?_)
      refine WLs (c' := #[.int .i64 V.epoch, .int .i64 V.now, .slice AS xs.length cS, .slice AN V.snats.length cN, .slice AK V.sick.length cK, .slice cM ((grX (V.leases.filter (pruneP V.now)) (outV V.snats dip) dip V.now).length) cO]) aV 0 29 p 5 (.slice cM ((grX (V.leases.filter (pruneP V.now)) (outV V.snats dip) dip V.now).length) cO) (by kernel_rfl) rfl (by kernel_rfl) (fun m3 b4 aX => ?_)
      have h2 := own_fr ek b4 (aV.apartM 0 0 rfl rfl)
      have h3 := own_fr el b4 (aV.apartM 1 0 rfl rfl)
      have h4 := own_fr em b4 (aV.apartM 2 0 rfl rfl)
      have h5 := svcsIn.fr en b4 (aV.apartM 4 0 rfl rfl)
      have h6 := own_fr hL b4 (aV.apartM 8 0 rfl rfl)
      refine WLd rfl (QXn (er _ _ ?_))
      refine WCs (fun m4 es => ?_)
      refine WCg ?_
      refine WLo 50 (.pointer (some ⟨bS, 0, none⟩)) (.agg #[.int .u32 ((grL (V.leases.filter (pruneP V.now)) (outV V.snats dip) dip V.now).vip), .int .i64 ((grL (V.leases.filter (pruneP V.now)) (outV V.snats dip) dip V.now).first), .int .u32 ((grL (V.leases.filter (pruneP V.now)) (outV V.snats dip) dip V.now).dip), .int .i64 ((grL (V.leases.filter (pruneP V.now)) (outV V.snats dip) dip V.now).exp)]) 129 (run_ld (aX.get 2 rfl) rfl) ?_
      refine WLq 1 [(130, .agg #[.int .i64 0, .int .u32 ((grL (V.leases.filter (pruneP V.now)) (outV V.snats dip) dip V.now).vip), .int .i64 ((grL (V.leases.filter (pruneP V.now)) (outV V.snats dip) dip V.now).first), .int .u32 ((grL (V.leases.filter (pruneP V.now)) (outV V.snats dip) dip V.now).dip), .int .i64 ((grL (V.leases.filter (pruneP V.now)) (outV V.snats dip) dip V.now).exp)])] ?_
      refine WLs (c' := #[.int .i64 0, .int .u32 ((grL (V.leases.filter (pruneP V.now)) (outV V.snats dip) dip V.now).vip), .int .i64 ((grL (V.leases.filter (pruneP V.now)) (outV V.snats dip) dip V.now).first), .int .u32 ((grL (V.leases.filter (pruneP V.now)) (outV V.snats dip) dip V.now).dip), .int .i64 ((grL (V.leases.filter (pruneP V.now)) (outV V.snats dip) dip V.now).exp)]) aX 1 52 g3 0 (.agg #[.int .i64 0, .int .u32 ((grL (V.leases.filter (pruneP V.now)) (outV V.snats dip) dip V.now).vip), .int .i64 ((grL (V.leases.filter (pruneP V.now)) (outV V.snats dip) dip V.now).first), .int .u32 ((grL (V.leases.filter (pruneP V.now)) (outV V.snats dip) dip V.now).dip), .int .i64 ((grL (V.leases.filter (pruneP V.now)) (outV V.snats dip) dip V.now).exp)]) (by kernel_rfl) rfl (by kernel_rfl) (fun m5 b5 et => ?_)
      have h7 := own_fr h2 b5 (aX.apartM 0 1 rfl rfl)
      have h8 := own_fr h3 b5 (aX.apartM 1 1 rfl rfl)
      have h9 := own_fr h4 b5 (aX.apartM 2 1 rfl rfl)
      have ia := svcsIn.fr h5 b5 (aX.apartM 4 1 rfl rfl)
      have ib := own_fr h6 b5 (aX.apartM 8 1 rfl rfl)
      refine WLd rfl (QXn (es _ _ ?_))
      refine WC.ret ?_
      refine (hret' _ _ (.agg #[.int .i64 0, .int .u32 ((grL (V.leases.filter (pruneP V.now)) (outV V.snats dip) dip V.now).vip), .int .i64 ((grL (V.leases.filter (pruneP V.now)) (outV V.snats dip) dip V.now).first), .int .u32 ((grL (V.leases.filter (pruneP V.now)) (outV V.snats dip) dip V.now).dip), .int .i64 ((grL (V.leases.filter (pruneP V.now)) (outV V.snats dip) dip V.now).exp)]) (fun a ha => ?_) ?_).1
      ·
       exact res_run ha ((ResR.cell rfl (run_ld (et.get 1 rfl) rfl) ResR.nil)) rfl
      clear hN hret hret' es er di dh bU bn bT bR bQ bO bN c0 cZ cY bh bg bf be hK2
      have hE_ : lendE V (outV V.snats dip) dip = grE (leaL V) (outV V.snats dip) dip V.now := by unfold lendE; rw [if_pos (List.eq_nil_of_length_eq_zero (by omega))]
      have hL_ : lendL V (outV V.snats dip) dip = grL (leaL V) (outV V.snats dip) dip V.now := by unfold lendL; rw [if_pos (List.eq_nil_of_length_eq_zero (by omega))]
      have hX_ : lendX V (outV V.snats dip) dip = grX (leaL V) (outV V.snats dip) dip V.now := by unfold lendX; rw [if_pos (List.eq_nil_of_length_eq_zero (by omega))]
      have hz_ : grE (leaL V) (outV V.snats dip) dip V.now = 0 := (by have q_ := aW; simpa [leaL] using q_)
      have hR_ : leaseR V dip = ⟨0, grL (leaL V) (outV V.snats dip) dip V.now⟩ := by unfold leaseR; rw [if_neg (by rw [aG]; decide)]; rw [hE_, if_pos hz_, hL_, hz_]
      have hV_ : leaseC V dip = { V with leases := grX (leaL V) (outV V.snats dip) dip V.now } := by unfold leaseC; rw [if_neg (by rw [aG]; decide)]; rw [hE_, if_pos hz_, hX_]
      rw [hR_, hV_]
      have ic := Cx.pickM et [0] [0, 1, 2, 4, 8] (by decide) rfl rfl
      have ie := Cx_sw5 ic
      obtain ⟨ig, fc, dK⟩ := cfg_close (V := { V with leases := grX (leaL V) (outV V.snats dip) dip V.now }) (xs := xs) ie h7 h8 h9 ib ia hvals
      exact ⟨_, rfl, fc, ig, dK⟩
  ·
   refine WO.sem 10 (Instr.loadAt 3 (.pointer (some ⟨p, 1, none⟩))) 37 (.int .i64 V.now) (by kernel_rfl) (by kernel_rfl) (run_ld (cF.get 0 rfl) rfl) ak ?_
   refine WD.sem 5 (Instr.loadAt 29 (.pointer (some ⟨p, 5, none⟩))) 32 (.slice AL V.leases.length cL) (by kernel_rfl) (by kernel_rfl) (run_ld (cF.get 0 rfl) rfl) ak ?_
   refine WD.call 11 (by kernel_rfl) rfl rfl rfl rfl rfl (by kernel_rfl) (Prune_ct AL cL V.leases V.now l9 (own_rd dB encL_len (by decide)) hw.lok (by first | omega | simp)) ?_
   rintro _ m6 ⟨v_, rfl, ay, cz⟩
   have aY := cF.callN ay (own_ge cz) (own_lt cz)
   obtain ⟨aH, aI, rfl, lV⟩ := own_form cz
   have ih := own_base (b' := 0) cz (fun _ _ => Nat.zero_le _)
   have bv := ak.trans ay (by simp)
   refine ⟨_, rfl, bv, ?_⟩
   have ii := own_fr fw ay (by simp)
   have ij := own_fr fx ay (by simp)
   have ik := own_fr fy ay (by simp)
   have il := own_fr dB ay (by simp)
   have im := svcsIn.fr fz ay (by simp)
   have mg := fA.trans ay (by simp)
   refine WDq (NPt hN) 12 39 (.pointer (some ⟨p, 0, none⟩)) bv ?_
   refine WDq (NPt hN) 13 40 (.pointer (some ⟨p, 0, none⟩)) bv ?_
   refine WDq (NPt hN) 14 41 (.pointer (some ⟨p, 5, none⟩)) bv ?_
   obtain ⟨m7, io, aZ, ip⟩ := sto_run (c' := #[.int .i64 V.epoch, .int .i64 V.now, .slice AS xs.length cS, .slice AN V.snats.length cN, .slice AK V.sick.length cK, .slice aH ((V.leases.filter (pruneP V.now)).length) aI]) Tryz.prog aY 0 29 p 5 (.slice aH ((V.leases.filter (pruneP V.now)).length) aI) rfl (by kernel_rfl)
   have iq := bv.trans aZ (by first | (simp; done) | (simp [*]; done) | (have q_ := bv.size; simp; omega))
   refine WD.semU 15 (Instr.storeAt 29 (.pointer (some ⟨p, 5, none⟩)) (.slice aH ((V.leases.filter (pruneP V.now)).length) aI)) (by kernel_rfl) (by kernel_rfl) io iq ?_
   have ir := own_fr ii aZ (aY.apartM 0 0 rfl rfl)
   have it := own_fr ij aZ (aY.apartM 1 0 rfl rfl)
   have iu := own_fr ik aZ (aY.apartM 2 0 rfl rfl)
   have iv := own_fr il aZ (aY.apartM 3 0 rfl rfl)
   have iw := svcsIn.fr im aZ (aY.apartM 4 0 rfl rfl)
   have ix := own_fr ih aZ (aY.apartM 5 0 rfl rfl)
   refine WD.done (by kernel_rfl) ?_
   refine QXn (bh _ _ ?_)
   refine WCs (fun m8 b6 => ?_)
   refine WCg (WLq 1 [(7, .slice none 0 0)] (WLd rfl (QXn (b6 _ _ ?_))))
   refine WCs (fun m9 b7 => ?_)
   refine WCs (fun na b8 => ?_)
   refine WC.drawC ip [] (by kernel_rfl) (fun lW bw dj ai => ?_)
   have iy := own_fr ir bw (by simp)
   have iz := own_fr it bw (by simp)
   have iA := own_fr iu bw (by simp)
   have iB := own_fr iv bw (by simp)
   have iC := svcsIn.fr iw bw (by simp)
   have eu := own_fr ix bw (by simp)
   refine WDq (NPt (NPt hN)) 0 42 (.pointer (some ⟨p, 0, none⟩)) ai ?_
   refine WDq (NPt (NPt hN)) 1 43 (.pointer (some ⟨p, 0, none⟩)) ai ?_
   refine WDq (NPt (NPt hN)) 2 44 (.pointer (some ⟨p, 0, none⟩)) ai ?_
   refine WDq (NPt (NPt hN)) 3 45 (.pointer (some ⟨p, 5, none⟩)) ai ?_
   refine WDq (NPt (NPt hN)) 5 47 (.int .u32 dip) ai ?_
   refine WDq (NPt (NPt hN)) 6 48 (.pointer (some ⟨p, 0, none⟩)) ai ?_
   refine WDq (NPt (NPt hN)) 7 49 (.pointer (some ⟨p, 0, none⟩)) ai ?_
   refine WDq (NPt (NPt hN)) 8 50 (.pointer (some ⟨p, 0, none⟩)) ai ?_
   refine WDq (NPt (NPt hN)) 9 51 (.pointer (some ⟨p, 1, none⟩)) ai ?_
   refine WDq (NPt (NPt hN)) 13 55 (.int .i64 0) ai ?_
   refine WDm (NPt (NPt hN)) 4 29 (.pointer (some ⟨p, 5, none⟩)) (.slice aH ((V.leases.filter (pruneP V.now)).length) aI) 46 (fun _ hS_ => run_ld (Fr.has hS_ (dj.get 0 rfl) (by simp)) rfl) ai ?_
   refine WDm (NPt (NPt hN)) 10 3 (.pointer (some ⟨p, 1, none⟩)) (.int .i64 V.now) 52 (fun _ hS_ => run_ld (Fr.has hS_ (dj.get 0 rfl) (by simp)) rfl) ai ?_
   refine WD.call 11 (by kernel_rfl) rfl rfl rfl rfl rfl (by kernel_rfl) (Of_ct aH aI (V.leases.filter (pruneP V.now)) dip V.now lW (own_rd eu encL_len (by decide)) (fun l_ h_ => hw.lok l_ (List.mem_filter.1 h_).1) (by first | omega | simp)) ?_
   rintro _ nb ⟨v_, rfl, az, cA⟩
   have iD := dj.callN az (own_ge cA) (own_lt cA)
   obtain ⟨dL, dM, rfl, lX⟩ := own_form cA
   have ev := own_base (b' := 0) cA (fun _ _ => Nat.zero_le _)
   have ew := ai.trans az (by simp)
   refine ⟨_, rfl, ew, ?_⟩
   have iE := own_fr iy az (by simp)
   have iF := own_fr iz az (by simp)
   have iG := own_fr iA az (by simp)
   have iH := own_fr iB az (by simp)
   have iI := svcsIn.fr iC az (by simp)
   have iJ := own_fr eu az (by simp)
   refine WDq (NPt (NPt hN)) 12 54 (.int .i64 (((V.leases.filter (pruneP V.now)).filter (ofP dip V.now)).length : Int)) ew ?_
   refine WD.done (by kernel_rfl) ?_
   refine QXn (b8 _ _ ?_)
   refine WC.block ?_
   have iK := iD.addNil
   have hol_ := own_count encL_len (by decide) ev
   have holb_ : ((V.leases.filter (pruneP V.now)).filter (ofP dip V.now)).length ≤ n := Nat.le_trans (List.length_filter_le _ _) (Nat.le_trans (List.length_filter_le _ _) hw.ln)
   refine WC.loop (fun m_ E_ w_ => ∃ (k : Nat) (A5 : Option Addr) (n5 c5 : Nat), m_ = ((V.leases.filter (pruneP V.now)).filter (ofP dip V.now)).length - k ∧ E_ = [(0, .pointer (some ⟨p, 0, none⟩)), (1, .int .u32 dip), (4, .pointer (some ⟨g3, 0, none⟩)), (5, .int .u32 (outV V.snats dip)), (6, .bool (outB V.snats dip)), (7, .slice A5 n5 c5), (53, .slice dL (((V.leases.filter (pruneP V.now)).filter (ofP dip V.now)).length) dM), (54, .int .i64 (((V.leases.filter (pruneP V.now)).filter (ofP dip V.now)).length : Int)), (55, .int .i64 (k : Int))] ∧ Cx w F w_ [(p, .cells #[.int .i64 V.epoch, .int .i64 V.now, .slice AS xs.length cS, .slice AN V.snats.length cN, .slice AK V.sick.length cK, .slice aH ((V.leases.filter (pruneP V.now)).length) aI] 72 (0, 0)), (g3, .cells #[.int .i64 0, .int .u32 0, .int .i64 0, .int .u32 0, .int .i64 0] 52)] [blk (.slice AS xs.length cS), blk (.slice AN V.snats.length cN), blk (.slice AK V.sick.length cK), blk (.slice AL V.leases.length cL), R, blk (.slice aH ((V.leases.filter (pruneP V.now)).length) aI), blk (.slice dL (((V.leases.filter (pruneP V.now)).filter (ofP dip V.now)).length) dM), blk (.slice A5 n5 c5)] ∧ World.ownsRow w_ 0 43 4 (.slice AS xs.length cS) xs.length (xs.flatMap cellsS) ∧ World.ownsRow w_ 0 79 2 (.slice AN V.snats.length cN) V.snats.length (V.snats.flatMap cellsN) ∧ World.ownsRow w_ 0 40 1 (.slice AK V.sick.length cK) V.sick.length (V.sick.flatMap (Go.Tw.encI .u32)) ∧ World.ownsRow w_ 0 50 4 (.slice AL V.leases.length cL) V.leases.length (V.leases.flatMap encL) ∧ svcsIn w_ R xs ∧ World.ownsRow w_ 0 50 4 (.slice aH ((V.leases.filter (pruneP V.now)).length) aI) ((V.leases.filter (pruneP V.now)).length) ((V.leases.filter (pruneP V.now)).flatMap encL) ∧ World.ownsRow w_ 0 50 4 (.slice dL (((V.leases.filter (pruneP V.now)).filter (ofP dip V.now)).length) dM) (((V.leases.filter (pruneP V.now)).filter (ofP dip V.now)).length) (((V.leases.filter (pruneP V.now)).filter (ofP dip V.now)).flatMap encL) ∧ World.ownsRow w_ 0 50 4 (.slice A5 n5 c5) n5 (((((V.leases.filter (pruneP V.now)).filter (ofP dip V.now)).take k).filter (oldP (outV V.snats dip) V.now)).flatMap encL) ∧ (k ≤ ((V.leases.filter (pruneP V.now)).filter (ofP dip V.now)).length)) ⟨_, _, ⟨0, none, 0, 0, rfl, rfl, iK, iE, iF, iG, iH, iI, iJ, ev, own_nil _ _ _ _, Nat.zero_le _⟩, sub_of ⟨rfl, rfl, rfl, rfl, rfl, rfl, rfl, rfl, rfl, trivial⟩⟩ (fun m588 E_ nc nd dk iL => ?_)
   obtain ⟨k, A5, n5, c5, rfl, rfl, ex, S_m588, N_m588, K_m588, L_m588, in_m588, row539_m588, row583_m588, hold, hk⟩ := iL
   have hon_ := own_count encL_len (by decide) hold
   have honb_ : ((((V.leases.filter (pruneP V.now)).filter (ofP dip V.now)).take k).filter (oldP (outV V.snats dip) V.now)).length ≤ n := Nat.le_trans (List.length_filter_le _ _) (Nat.le_trans (by rw [List.length_take]; exact Nat.min_le_right _ _) holb_)
   refine WCs (fun nf b9 => ?_)
   refine WCg (WLq 1 [(56, .bool (decide ((k : Int) < (((V.leases.filter (pruneP V.now)).filter (ofP dip V.now)).length : Int))))] (WLd rfl (QXn (b9 _ _ ?_))))
   refine WCs (fun ng ca => ?_)
   refine WCa 56 (decide ((k : Int) < (((V.leases.filter (pruneP V.now)).filter (ofP dip V.now)).length : Int))) rfl (fun bx => ?_) (fun bx => ?_)
   ·
    have dN : (k : Int) < (((V.leases.filter (pruneP V.now)).filter (ofP dip V.now)).length : Int) := by have q_ := of_decide_eq_true bx; omega
    refine WCt rfl ?_
    refine WC.skip ?_
    refine QXn (ca _ _ ?_)
    refine WCs (fun nh dl => ?_)
    refine WC.block ?_
    refine WCs (fun ni iM => ?_)
    refine WCg ?_
    have mh := own_count encL_len (by decide) row583_m588
    obtain ⟨ab, bz⟩ := get_some (xs := ((V.leases.filter (pruneP V.now)).filter (ofP dip V.now))) (i := k) (by omega)
    obtain ⟨b602, ey⟩ := own_addr (by decide) encL_len row583_m588 bz
    refine WLi dL (((V.leases.filter (pruneP V.now)).filter (ofP dip V.now)).length) dM 57 .i64 (k : Int) b602 0 k 4 (by kernel_rfl) ey (by omega) (by omega) (k * 4) (by first | (simp; done) | omega) ?_
    refine WLo 50 (.pointer (some ⟨b602, k * 4, none⟩)) (.agg #[.int .u32 ab.vip, .int .i64 ab.first, .int .u32 ab.dip, .int .i64 ab.exp]) 58 (run_rdN (l := [.int .u32 ab.vip, .int .i64 ab.first, .int .u32 ab.dip, .int .i64 ab.exp]) rfl rfl (fun j u hu => by have hq_ := Rd.cell (own_rd row583_m588 encL_len (by decide)) ey bz j u hu; simpa [Nat.add_assoc] using hq_)) ?_
    obtain ⟨hm1_, hm2_⟩ := List.mem_filter.1 (List.mem_of_getElem? bz)
    obtain ⟨hm3_, hm4_⟩ := in_leaL hm1_
    obtain ⟨hq1_, hq2_, hq3_, hq4_, hq5_, hq6_, hq7_, hq8_⟩ := hw.lok _ hm3_
    refine WL.newM ex (fun b => .pointer (some ⟨b, 0, none⟩)) (.cells #[.int .u32 0, .int .i64 0, .int .u32 0, .int .i64 0] 50) 9 (fun _ => by kernel_rfl) (fun cP nj mi aA an => ?_)
    have iN := own_fr S_m588 aA (by simp)
    have iO := own_fr N_m588 aA (by simp)
    have iP := own_fr K_m588 aA (by simp)
    have iQ := own_fr L_m588 aA (by simp)
    have iR := svcsIn.fr in_m588 aA (by simp)
    have iS := own_fr row539_m588 aA (by simp)
    have iT := own_fr row583_m588 aA (by simp)
    have iU := own_fr hold aA (by simp)
    refine WLs (c' := #[.int .u32 ab.vip, .int .i64 ab.first, .int .u32 ab.dip, .int .i64 ab.exp]) an 2 50 cP 0 (.agg #[.int .u32 ab.vip, .int .i64 ab.first, .int .u32 ab.dip, .int .i64 ab.exp]) (by kernel_rfl) rfl (by kernel_rfl) (fun nk aB iV => ?_)
    have iW := own_fr iN aB (an.apartM 0 2 rfl rfl)
    have iX := own_fr iO aB (an.apartM 1 2 rfl rfl)
    have iY := own_fr iP aB (an.apartM 2 2 rfl rfl)
    have iZ := own_fr iQ aB (an.apartM 3 2 rfl rfl)
    have i0 := svcsIn.fr iR aB (an.apartM 4 2 rfl rfl)
    have i1 := own_fr iS aB (an.apartM 5 2 rfl rfl)
    have i2 := own_fr iT aB (an.apartM 6 2 rfl rfl)
    have i3 := own_fr iU aB (an.apartM 7 2 rfl rfl)
    refine WLd rfl (QXn (iM _ _ ?_))
    refine WCs (fun nl ez => ?_)
    refine WC.drawC iV [] (by kernel_rfl) (fun nm aC a0 ad => ?_)
    have dm := own_fr iW aC (by simp)
    have dn := own_fr iX aC (by simp)
    have dp := own_fr iY aC (by simp)
    have dq := own_fr iZ aC (by simp)
    have dr := svcsIn.fr i0 aC (by simp)
    have ds := own_fr i1 aC (by simp)
    have dt := own_fr i2 aC (by simp)
    have du := own_fr i3 aC (by simp)
    refine WDq (NPt (NPb (NPt (NPt (NPb (NPt hN)))))) 0 59 (.pointer (some ⟨cP, 0, none⟩)) ad ?_
    refine WDq (NPt (NPb (NPt (NPt (NPb (NPt hN)))))) 2 61 (.int .u32 (outV V.snats dip)) ad ?_
    refine WDm (NPt (NPb (NPt (NPt (NPb (NPt hN)))))) 1 40 (.pointer (some ⟨cP, 0, none⟩)) (.int .u32 ab.vip) 60 (fun _ hS_ => run_ld (Fr.has hS_ (a0.get 2 rfl) (by simp)) rfl) ad ?_
    refine WDq (NPt (NPb (NPt (NPt (NPb (NPt hN)))))) 3 62 (.bool (ab.vip == (outV V.snats dip))) ad ?_
    refine WDq (NPt (NPb (NPt (NPt (NPb (NPt hN)))))) 4 63 (.bool (ab.vip == (outV V.snats dip))) ad ?_
    refine WDa 63 (ab.vip == (outV V.snats dip)) rfl (fun bA => ?_) (fun bA => ?_)
    ·
     have dO : ab.vip = (outV V.snats dip) := by simpa using bA
     refine WDq (NPt (NPb (NPt (NPt (NPb (NPt hN)))))) 5 64 (.pointer (some ⟨cP, 3, none⟩)) ad ?_
     refine WDq (NPt (NPb (NPt (NPt (NPb (NPt hN)))))) 7 66 (.pointer (some ⟨p, 0, none⟩)) ad ?_
     refine WDq (NPt (NPb (NPt (NPt (NPb (NPt hN)))))) 8 67 (.pointer (some ⟨p, 0, none⟩)) ad ?_
     refine WDq (NPt (NPb (NPt (NPt (NPb (NPt hN)))))) 9 68 (.pointer (some ⟨p, 0, none⟩)) ad ?_
     refine WDq (NPt (NPb (NPt (NPt (NPb (NPt hN)))))) 10 69 (.pointer (some ⟨p, 1, none⟩)) ad ?_
     refine WDm (NPt (NPb (NPt (NPt (NPb (NPt hN)))))) 6 3 (.pointer (some ⟨cP, 3, none⟩)) (.int .i64 ab.exp) 65 (fun _ hS_ => run_ld (Fr.has hS_ (a0.get 2 rfl) (by simp)) rfl) ad ?_
     refine WDm (NPt (NPb (NPt (NPt (NPb (NPt hN)))))) 11 3 (.pointer (some ⟨p, 1, none⟩)) (.int .i64 V.now) 70 (fun _ hS_ => run_ld (Fr.has hS_ (a0.get 0 rfl) (by simp)) rfl) ad ?_
     refine WDq (NPt (NPb (NPt (NPt (NPb (NPt hN)))))) 12 71 (.int .i64 (IntKind.i64.wrap (ab.exp - V.now))) ad ?_
     refine WD.recast (show (.int .i64 (IntKind.i64.wrap (ab.exp - V.now)) : Value) = .int .i64 (ab.exp - V.now) from by rw [wrap_in_i64 (ab.exp - V.now) (by omega) (by omega)]) ?_
     refine WDq (NPt (NPb (NPt (NPt (NPb (NPt hN)))))) 13 72 (.bool (decide ((ab.exp - V.now) < 32))) ad ?_
     refine WDq (NPt (NPb (NPt (NPt (NPb (NPt hN)))))) 14 73 (.bool (decide ((ab.exp - V.now) < 32))) ad ?_
     refine WD.done (by kernel_rfl) ?_
     refine QXn (ez _ _ ?_)
     refine WCa 73 (decide ((ab.exp - V.now) < 32)) rfl (fun cb => ?_) (fun cb => ?_)
     ·
      have fd : (ab.exp - V.now) < 32 := by have q_ := of_decide_eq_true cb; omega
      refine WCt rfl ?_
      refine WCg (WLq 1 [(74, .slice A5 n5 c5)] ?_)
      refine WLo 50 (.pointer (some ⟨cP, 0, none⟩)) (.agg #[.int .u32 ab.vip, .int .i64 ab.first, .int .u32 ab.dip, .int .i64 ab.exp]) 75 (run_ld (a0.get 2 rfl) rfl) ?_
      refine WL.newM a0 (fun b => .slice (some ⟨b, 0, none⟩) 1 1) (.cells #[.int .u32 ab.vip, .int .i64 ab.first, .int .u32 ab.dip, .int .i64 ab.exp] 50) 76 (fun _ => by kernel_rfl) (fun i4 np mj aD ao => ?_)
      have i5 := own_fr dm aD (by simp)
      have i6 := own_fr dn aD (by simp)
      have i7 := own_fr dp aD (by simp)
      have i8 := own_fr dq aD (by simp)
      have i9 := svcsIn.fr dr aD (by simp)
      have ja := own_fr ds aD (by simp)
      have jb := own_fr dt aD (by simp)
      have jc := own_fr du aD (by simp)
      obtain ⟨nq, nr, jd, je, a1, jf, k7, k8⟩ := app_run Tryz.prog ao 7 (v := .slice A5 n5 c5) rfl 29 29 50 4 32 n5 1 1 (some ⟨i4, 0, none⟩) rfl jc [.int .u32 ab.vip, .int .i64 ab.first, .int .u32 ab.dip, .int .i64 ab.exp] rfl (srcOk.blk 1 (ao.get 3 rfl)) rfl (by simp only [maxLen]; omega) (by omega)
      have eA := own_snoc (enc := encL) (ys := ((((V.leases.filter (pruneP V.now)).filter (ofP dip V.now)).take k).filter (oldP (outV V.snats dip) V.now))) ab je
      obtain ⟨fe, ff, rfl, lY⟩ := own_form eA
      refine WL.sem (Builtin.append_ #[29, 29] 29 #[.slice A5 n5 c5, .slice (some ⟨i4, 0, none⟩) 1 1]) 77 (.slice fe (n5 + 1) ff) (by kernel_rfl) jd ?_
      have jg := own_fr i5 a1 (ao.disj 0 7 rfl rfl (by decide))
      have jh := own_fr i6 a1 (ao.disj 1 7 rfl rfl (by decide))
      have ji := own_fr i7 a1 (ao.disj 2 7 rfl rfl (by decide))
      have jj := own_fr i8 a1 (ao.disj 3 7 rfl rfl (by decide))
      have jk := svcsIn.fr i9 a1 (ao.disj 4 7 rfl rfl (by decide))
      have jl := own_fr ja a1 (ao.disj 5 7 rfl rfl (by decide))
      have jm := own_fr jb a1 (ao.disj 6 7 rfl rfl (by decide))
      refine WLq 1 [(7, .slice fe (n5 + 1) ff)] ?_
      refine WLd rfl ?_
      refine QXb ?_
      refine QXn (dl _ _ ?_)
      refine WCg (WLq 1 [(78, .int .i64 (IntKind.i64.wrap ((k : Int) + 1)))] ?_)
      refine WLt (show (.int .i64 (IntKind.i64.wrap ((k : Int) + 1)) : Value) = .int .i64 ((k : Int) + 1) from by rw [wrap_in_i64 ((k : Int) + 1) (by omega) (by omega)]) ?_
      refine WLq 1 [(55, .int .i64 ((k : Int) + 1))] ?_
      refine WLd rfl ?_
      refine QXn ?_
      have jn := jf.pick [0, 1] [0, 1, 2, 3, 4, 5, 6, 7] rfl rfl
      refine fun a_ ha_ => dk _ _ _ ?_ ⟨k + 1, fe, n5 + 1, ff, rfl, rfl, jn, jg, jh, ji, jj, jk, jl, jm, by rw [filt_snoc (oldP (outV V.snats dip) V.now) bz, if_pos (by simp [oldP, aG, aJ, dN, bx, dO, bA, fd, cb])]; exact eA, by omega⟩ a_ (ha_.weaken (sub_of ⟨rfl, rfl, rfl, rfl, rfl, rfl, rfl, rfl, rfl, trivial⟩))
      omega
     ·
      have fd : (32 : Int) ≤ (ab.exp - V.now) := by have q_ := of_decide_eq_false cb; omega
      refine WCf rfl (WC.skip ?_)
      refine QXb ?_
      refine QXn (dl _ _ ?_)
      refine WCg (WLq 1 [(78, .int .i64 (IntKind.i64.wrap ((k : Int) + 1)))] ?_)
      refine WLt (show (.int .i64 (IntKind.i64.wrap ((k : Int) + 1)) : Value) = .int .i64 ((k : Int) + 1) from by rw [wrap_in_i64 ((k : Int) + 1) (by omega) (by omega)]) ?_
      refine WLq 1 [(55, .int .i64 ((k : Int) + 1))] ?_
      refine WLd rfl ?_
      refine QXn ?_
      have jo := a0.pick [0, 1] [0, 1, 2, 3, 4, 5, 6, 7] rfl rfl
      refine fun a_ ha_ => dk _ _ _ ?_ ⟨k + 1, A5, n5, c5, rfl, rfl, jo, dm, dn, dp, dq, dr, ds, dt, by rw [filt_snoc (oldP (outV V.snats dip) V.now) bz, if_neg (by simp [oldP, aG, aJ, dN, bx, dO, bA, fd, cb] <;> omega), List.append_nil]; exact du, by omega⟩ a_ (ha_.weaken (sub_of ⟨rfl, rfl, rfl, rfl, rfl, rfl, rfl, rfl, rfl, trivial⟩))
      omega
    ·
     have dO : ¬ (ab.vip = (outV V.snats dip)) := by simpa using bA
     refine WDq (NPt (NPb (NPt (NPt (NPb (NPt hN)))))) 5 64 (undef) ad ?_
     refine WDq (NPt (NPb (NPt (NPt (NPb (NPt hN)))))) 6 65 (undef) ad ?_
     refine WDq (NPt (NPb (NPt (NPt (NPb (NPt hN)))))) 7 66 (undef) ad ?_
     refine WDq (NPt (NPb (NPt (NPt (NPb (NPt hN)))))) 8 67 (undef) ad ?_
     refine WDq (NPt (NPb (NPt (NPt (NPb (NPt hN)))))) 9 68 (undef) ad ?_
     refine WDq (NPt (NPb (NPt (NPt (NPb (NPt hN)))))) 10 69 (undef) ad ?_
     refine WDq (NPt (NPb (NPt (NPt (NPb (NPt hN)))))) 11 70 (undef) ad ?_
     refine WDq (NPt (NPb (NPt (NPt (NPb (NPt hN)))))) 12 71 (undef) ad ?_
     refine WDq (NPt (NPb (NPt (NPt (NPb (NPt hN)))))) 13 72 (undef) ad ?_
     refine WDq (NPt (NPb (NPt (NPt (NPb (NPt hN)))))) 14 73 (.bool false) ad ?_
     refine WD.done (by kernel_rfl) ?_
     refine QXn (ez _ _ ?_)
     refine WCf rfl (WC.skip ?_)
     refine QXb ?_
     refine QXn (dl _ _ ?_)
     refine WCg (WLq 1 [(78, .int .i64 (IntKind.i64.wrap ((k : Int) + 1)))] ?_)
     refine WLt (show (.int .i64 (IntKind.i64.wrap ((k : Int) + 1)) : Value) = .int .i64 ((k : Int) + 1) from by rw [wrap_in_i64 ((k : Int) + 1) (by omega) (by omega)]) ?_
     refine WLq 1 [(55, .int .i64 ((k : Int) + 1))] ?_
     refine WLd rfl ?_
     refine QXn ?_
     have jp := a0.pick [0, 1] [0, 1, 2, 3, 4, 5, 6, 7] rfl rfl
     refine fun a_ ha_ => dk _ _ _ ?_ ⟨k + 1, A5, n5, c5, rfl, rfl, jp, dm, dn, dp, dq, dr, ds, dt, by rw [filt_snoc (oldP (outV V.snats dip) V.now) bz, if_neg (by simp [oldP, aG, aJ, dN, bx, dO, bA] <;> omega), List.append_nil]; exact du, by omega⟩ a_ (ha_.weaken (sub_of ⟨rfl, rfl, rfl, rfl, rfl, rfl, rfl, rfl, rfl, trivial⟩))
     omega
   ·
    have dN : (((V.leases.filter (pruneP V.now)).filter (ofP dip V.now)).length : Int) ≤ (k : Int) := by have q_ := of_decide_eq_false bx; omega
    refine WCf rfl ?_
    have hke_ : k = ((V.leases.filter (pruneP V.now)).filter (ofP dip V.now)).length := by omega
    have bL := hold
    rw [List.take_of_length_le (by omega)] at bL hon_ honb_
    have hfo_ : ((V.leases.filter (pruneP V.now)).filter (ofP dip V.now)).filter (oldP (outV V.snats dip) V.now) = (oldL V (outV V.snats dip) dip) := rfl
    rw [hfo_] at bL hon_ honb_
    skip
    refine WC.exit ?_
    refine QXe ?_
    refine QXe ?_
    refine QX.block_hit ?_
    refine QXn (b7 _ _ ?_)
    refine WCs (fun ns cc => ?_)
    refine WCg (WLq 1 [(10, .slice none 0 0)] (WLd rfl (QXn (cc _ _ ?_))))
    refine WCs (fun nt cd => ?_)
    refine WCg ?_
    refine WL.newM ex (fun b => .pointer (some ⟨b, 0, none⟩)) (.cells #[.int .u32 0, .int .i64 0, .int .u32 0, .int .i64 0] 50) 11 (fun _ => by kernel_rfl) (fun ce lZ mk bB eB => ?_)
    have eC := own_fr S_m588 bB (by simp)
    have eD := own_fr N_m588 bB (by simp)
    have eE := own_fr K_m588 bB (by simp)
    have eF := svcsIn.fr in_m588 bB (by simp)
    have eG := own_fr row539_m588 bB (by simp)
    have eH := own_fr bL bB (by simp)
    refine WLd rfl (QXn (cd _ _ ?_))
    refine WCs (fun nu cf => ?_)
    refine WCg (WLq 1 [(12, .nilIface)] (WLd rfl (QXn (cf _ _ ?_))))
    refine WCs (fun nv bC => ?_)
    refine WCs (fun nw cg => ?_)
    refine WCg (WLq 3 [(81, .bool (decide ((n5 : Int) > 0))), (80, .int .i64 (n5 : Int)), (79, .slice A5 n5 c5)] (WLd rfl (QXn (cg _ _ ?_))))
    refine WCa 81 (decide ((n5 : Int) > 0)) rfl (fun dv => ?_) (fun dv => ?_)
    ·
     have l0 : (0 : Int) < (n5 : Int) := by have q_ := of_decide_eq_true dv; omega
     refine WCt rfl ?_
     refine WCs (fun nx dw => ?_)
     refine WCg (WLq 1 [(82, .slice A5 n5 c5)] ?_)
     have hmn_ := own_count encL_len (by decide) eH
     refine WLc rfl rfl rfl rfl rfl (by kernel_rfl) (Min_n A5 n5 c5 (oldL V (outV V.snats dip) dip) lZ (own_rd eH encL_len (by decide)) hmn_ (by omega) (by omega)) ?_
     rintro _ ny ⟨rfl, bD⟩
     refine ⟨_, rfl, ?_⟩
     have jq := eB.call bD
     have jr := own_fr eC bD (by simp)
     have js := own_fr eD bD (by simp)
     have jt := own_fr eE bD (by simp)
     have ju := svcsIn.fr eF bD (by simp)
     have jv := own_fr eG bD (by simp)
     refine WL.newM jq (fun b => .pointer (some ⟨b, 0, none⟩)) (.cells #[.int .u32 0, .int .i64 0, .int .u32 0, .int .i64 0] 50) 13 (fun _ => by kernel_rfl) (fun fg nz ml ch bE => ?_)
     have jw := own_fr jr ch (by simp)
     have jx := own_fr js ch (by simp)
     have jy := own_fr jt ch (by simp)
     have jz := svcsIn.fr ju ch (by simp)
     have jA := own_fr jv ch (by simp)
     refine WLs (c' := #[.int .u32 ((minL (oldL V (outV V.snats dip) dip)).vip), .int .i64 ((minL (oldL V (outV V.snats dip) dip)).first), .int .u32 ((minL (oldL V (outV V.snats dip) dip)).dip), .int .i64 ((minL (oldL V (outV V.snats dip) dip)).exp)]) bE 3 50 fg 0 (.agg #[.int .u32 ((minL (oldL V (outV V.snats dip) dip)).vip), .int .i64 ((minL (oldL V (outV V.snats dip) dip)).first), .int .u32 ((minL (oldL V (outV V.snats dip) dip)).dip), .int .i64 ((minL (oldL V (outV V.snats dip) dip)).exp)]) (by kernel_rfl) rfl (by kernel_rfl) (fun nA ci jB => ?_)
     have jC := own_fr jw ci (bE.apartM 0 3 rfl rfl)
     have jD := own_fr jx ci (bE.apartM 1 3 rfl rfl)
     have jE := own_fr jy ci (bE.apartM 2 3 rfl rfl)
     have jF := svcsIn.fr jz ci (bE.apartM 4 3 rfl rfl)
     have jG := own_fr jA ci (bE.apartM 5 3 rfl rfl)
     refine WLd rfl (QXn (dw _ _ ?_))
     refine WC.drawC jB [ce] (by kernel_rfl) (fun l1 cj bF af => ?_)
     have jH := own_fr jC cj (by simp)
     have jI := own_fr jD cj (by simp)
     have jJ := own_fr jE cj (by simp)
     have jK := svcsIn.fr jF cj (by simp)
     have eI := own_fr jG cj (by simp)
     refine WDq (NPt hN) 0 85 (.pointer (some ⟨p, 0, none⟩)) af ?_
     refine WDq (NPt hN) 1 86 (.pointer (some ⟨p, 0, none⟩)) af ?_
     refine WDq (NPt hN) 2 87 (.pointer (some ⟨p, 0, none⟩)) af ?_
     refine WDq (NPt hN) 3 88 (.pointer (some ⟨p, 5, none⟩)) af ?_
     refine WDq (NPt hN) 5 90 (.int .u32 (outV V.snats dip)) af ?_
     refine WDq (NPt hN) 6 91 (.pointer (some ⟨fg, 1, none⟩)) af ?_
     refine WDq (NPt hN) 8 93 (.int .u32 dip) af ?_
     refine WDq (NPt hN) 9 94 (.pointer (some ⟨p, 0, none⟩)) af ?_
     refine WDq (NPt hN) 10 95 (.pointer (some ⟨p, 0, none⟩)) af ?_
     refine WDq (NPt hN) 11 96 (.pointer (some ⟨p, 0, none⟩)) af ?_
     refine WDq (NPt hN) 12 97 (.pointer (some ⟨p, 1, none⟩)) af ?_
     refine WDm (NPt hN) 4 29 (.pointer (some ⟨p, 5, none⟩)) (.slice aH ((V.leases.filter (pruneP V.now)).length) aI) 89 (fun _ hS_ => run_ld (Fr.has hS_ (bF.get 0 rfl) (by simpa using bF.ne 0 2 rfl rfl (by decide))) rfl) af ?_
     refine WDm (NPt hN) 7 3 (.pointer (some ⟨fg, 1, none⟩)) (.int .i64 ((minL (oldL V (outV V.snats dip) dip)).first)) 92 (fun _ hS_ => run_ld (Fr.has hS_ (bF.get 3 rfl) (by simpa using bF.ne 3 2 rfl rfl (by decide))) rfl) af ?_
     refine WD.sem 13 (Instr.loadAt 3 (.pointer (some ⟨p, 1, none⟩))) 98 (.int .i64 V.now) (by kernel_rfl) (by kernel_rfl) (run_ld (bF.get 0 rfl) rfl) af ?_
     refine WD.call 14 (by kernel_rfl) rfl rfl rfl rfl rfl (by kernel_rfl) (Renew_ct aH aI (V.leases.filter (pruneP V.now)) (outV V.snats dip) ((minL (oldL V (outV V.snats dip) dip)).first) dip V.now l1 (own_rd eI encL_len (by decide)) (fun l_ h_ => hw.lok l_ (List.mem_filter.1 h_).1) (by omega)) ?_
     rintro _ nB ⟨v_, rfl, a2, cB⟩
     have a3 := bF.callN a2 (own_ge cB) (own_lt cB)
     obtain ⟨cQ, cR, rfl, l2⟩ := own_form cB
     have jL := own_base (b' := 0) cB (fun _ _ => Nat.zero_le _)
     have aE := af.trans a2 (by simp)
     refine ⟨_, rfl, aE, ?_⟩
     have jM := own_fr jH a2 (by simp)
     have jN := own_fr jI a2 (by simp)
     have jO := own_fr jJ a2 (by simp)
     have jP := svcsIn.fr jK a2 (by simp)
     have jQ := own_fr eI a2 (by simp)
     refine WDq (NPt hN) 15 84 (.tuple #[.slice cQ ((rnX (V.leases.filter (pruneP V.now)) (outV V.snats dip) ((minL (oldL V (outV V.snats dip) dip)).first) dip V.now).length) cR, .agg #[.int .u32 ((rnL (V.leases.filter (pruneP V.now)) (outV V.snats dip) ((minL (oldL V (outV V.snats dip) dip)).first) dip V.now).vip), .int .i64 ((rnL (V.leases.filter (pruneP V.now)) (outV V.snats dip) ((minL (oldL V (outV V.snats dip) dip)).first) dip V.now).first), .int .u32 ((rnL (V.leases.filter (pruneP V.now)) (outV V.snats dip) ((minL (oldL V (outV V.snats dip) dip)).first) dip V.now).dip), .int .i64 ((rnL (V.leases.filter (pruneP V.now)) (outV V.snats dip) ((minL (oldL V (outV V.snats dip) dip)).first) dip V.now).exp)], errV 118 (rnE (V.leases.filter (pruneP V.now)) (outV V.snats dip) ((minL (oldL V (outV V.snats dip) dip)).first) dip V.now)]) aE ?_
     refine WDq (NPt hN) 16 100 (.slice cQ ((rnX (V.leases.filter (pruneP V.now)) (outV V.snats dip) ((minL (oldL V (outV V.snats dip) dip)).first) dip V.now).length) cR) aE ?_
     refine WDq (NPt hN) 17 101 (.agg #[.int .u32 ((rnL (V.leases.filter (pruneP V.now)) (outV V.snats dip) ((minL (oldL V (outV V.snats dip) dip)).first) dip V.now).vip), .int .i64 ((rnL (V.leases.filter (pruneP V.now)) (outV V.snats dip) ((minL (oldL V (outV V.snats dip) dip)).first) dip V.now).first), .int .u32 ((rnL (V.leases.filter (pruneP V.now)) (outV V.snats dip) ((minL (oldL V (outV V.snats dip) dip)).first) dip V.now).dip), .int .i64 ((rnL (V.leases.filter (pruneP V.now)) (outV V.snats dip) ((minL (oldL V (outV V.snats dip) dip)).first) dip V.now).exp)]) aE ?_
     refine WDq (NPt hN) 18 102 (errV 118 (rnE (V.leases.filter (pruneP V.now)) (outV V.snats dip) ((minL (oldL V (outV V.snats dip) dip)).first) dip V.now)) aE ?_
     refine WDq (NPt hN) 19 10 (.slice cQ ((rnX (V.leases.filter (pruneP V.now)) (outV V.snats dip) ((minL (oldL V (outV V.snats dip) dip)).first) dip V.now).length) cR) aE ?_
     obtain ⟨l3, jR, a4, a5⟩ := sto_run (c' := #[.int .u32 ((rnL (V.leases.filter (pruneP V.now)) (outV V.snats dip) ((minL (oldL V (outV V.snats dip) dip)).first) dip V.now).vip), .int .i64 ((rnL (V.leases.filter (pruneP V.now)) (outV V.snats dip) ((minL (oldL V (outV V.snats dip) dip)).first) dip V.now).first), .int .u32 ((rnL (V.leases.filter (pruneP V.now)) (outV V.snats dip) ((minL (oldL V (outV V.snats dip) dip)).first) dip V.now).dip), .int .i64 ((rnL (V.leases.filter (pruneP V.now)) (outV V.snats dip) ((minL (oldL V (outV V.snats dip) dip)).first) dip V.now).exp)]) Tryz.prog a3 2 50 ce 0 (.agg #[.int .u32 ((rnL (V.leases.filter (pruneP V.now)) (outV V.snats dip) ((minL (oldL V (outV V.snats dip) dip)).first) dip V.now).vip), .int .i64 ((rnL (V.leases.filter (pruneP V.now)) (outV V.snats dip) ((minL (oldL V (outV V.snats dip) dip)).first) dip V.now).first), .int .u32 ((rnL (V.leases.filter (pruneP V.now)) (outV V.snats dip) ((minL (oldL V (outV V.snats dip) dip)).first) dip V.now).dip), .int .i64 ((rnL (V.leases.filter (pruneP V.now)) (outV V.snats dip) ((minL (oldL V (outV V.snats dip) dip)).first) dip V.now).exp)]) rfl (by kernel_rfl)
     have eJ := aE.trans a4 (by first | (simp; done) | (simp [*]; done) | (have q_ := aE.size; simp; omega))
     refine WD.semU 20 (Instr.storeAt 50 (.pointer (some ⟨ce, 0, none⟩)) (.agg #[.int .u32 ((rnL (V.leases.filter (pruneP V.now)) (outV V.snats dip) ((minL (oldL V (outV V.snats dip) dip)).first) dip V.now).vip), .int .i64 ((rnL (V.leases.filter (pruneP V.now)) (outV V.snats dip) ((minL (oldL V (outV V.snats dip) dip)).first) dip V.now).first), .int .u32 ((rnL (V.leases.filter (pruneP V.now)) (outV V.snats dip) ((minL (oldL V (outV V.snats dip) dip)).first) dip V.now).dip), .int .i64 ((rnL (V.leases.filter (pruneP V.now)) (outV V.snats dip) ((minL (oldL V (outV V.snats dip) dip)).first) dip V.now).exp)])) (by kernel_rfl) (by kernel_rfl) jR eJ ?_
     have eK := own_fr jM a4 (a3.apartM 0 2 rfl rfl)
     have eL := own_fr jN a4 (a3.apartM 1 2 rfl rfl)
     have eM := own_fr jO a4 (a3.apartM 2 2 rfl rfl)
     have eN := svcsIn.fr jP a4 (a3.apartM 4 2 rfl rfl)
     have jS := own_fr jQ a4 (a3.apartM 5 2 rfl rfl)
     have jT := own_fr jL a4 (a3.apartM 8 2 rfl rfl)
     refine WDq (NPt hN) 21 12 (errV 118 (rnE (V.leases.filter (pruneP V.now)) (outV V.snats dip) ((minL (oldL V (outV V.snats dip) dip)).first) dip V.now)) eJ ?_
     refine WD.done (by kernel_rfl) ?_
     refine QXn (bC _ _ ?_)
     refine WCs (fun nC dx => ?_)
     refine WCs (fun nD dy => ?_)
     refine WCg (WLq 1 [(120, errV 118 (rnE (V.leases.filter (pruneP V.now)) (outV V.snats dip) ((minL (oldL V (outV V.snats dip) dip)).first) dip V.now))] ?_)
     have jU : ∀ w_, Sem.run Tryz.prog (do eqGuard .neq 97 (Operand.tmp 120) (Operand.const (.nilIface)) (errV 118 (rnE (V.leases.filter (pruneP V.now)) (outV V.snats dip) ((minL (oldL V (outV V.snats dip) dip)).first) dip V.now)) (.nilIface); binOp .neq 97 (errV 118 (rnE (V.leases.filter (pruneP V.now)) (outV V.snats dip) ((minL (oldL V (outV V.snats dip) dip)).first) dip V.now)) (.nilIface)) w_ = .ok (.bool (!(decide (rnE (V.leases.filter (pruneP V.now)) (outV V.snats dip) ((minL (oldL V (outV V.snats dip) dip)).first) dip V.now = 0)))) w_ := fun w_ => (err_neq _ (rnE (V.leases.filter (pruneP V.now)) (outV V.snats dip) ((minL (oldL V (outV V.snats dip) dip)).first) dip V.now) (decide (rnE (V.leases.filter (pruneP V.now)) (outV V.snats dip) ((minL (oldL V (outV V.snats dip) dip)).first) dip V.now = 0)) (by rfl) _)
     refine WL.sem (do eqGuard .neq 97 (Operand.tmp 120) (Operand.const (.nilIface)) (errV 118 (rnE (V.leases.filter (pruneP V.now)) (outV V.snats dip) ((minL (oldL V (outV V.snats dip) dip)).first) dip V.now)) (.nilIface); binOp .neq 97 (errV 118 (rnE (V.leases.filter (pruneP V.now)) (outV V.snats dip) ((minL (oldL V (outV V.snats dip) dip)).first) dip V.now)) (.nilIface)) 121 (.bool (!(decide (rnE (V.leases.filter (pruneP V.now)) (outV V.snats dip) ((minL (oldL V (outV V.snats dip) dip)).first) dip V.now = 0)))) (by kernel_rfl) (jU _) ?_
     refine WLd rfl (QXn (dy _ _ ?_))
     refine WCa 121 (!(decide (rnE (V.leases.filter (pruneP V.now)) (outV V.snats dip) ((minL (oldL V (outV V.snats dip) dip)).first) dip V.now = 0))) rfl (fun a6 => ?_) (fun a6 => ?_)
     ·
      have l4 : (decide (rnE (V.leases.filter (pruneP V.now)) (outV V.snats dip) ((minL (oldL V (outV V.snats dip) dip)).first) dip V.now = 0)) = false := by first | (simpa only [Bool.not_eq_true', Bool.not_eq_false'] using a6) | simpa using a6
      refine WCt rfl ?_
      refine WCs (fun nE eO => ?_)
      refine WCg (WLq 1 [(122, errV 118 (rnE (V.leases.filter (pruneP V.now)) (outV V.snats dip) ((minL (oldL V (outV V.snats dip) dip)).first) dip V.now))] ?_)
      refine WLc rfl rfl rfl rfl rfl (by kernel_rfl) (result_ct (rnE (V.leases.filter (pruneP V.now)) (outV V.snats dip) ((minL (oldL V (outV V.snats dip) dip)).first) dip V.now) l3) ?_
      rintro _ nF ⟨rfl, bG⟩
      refine ⟨_, rfl, ?_⟩
      have bH := a5.call bG
      have jV := own_fr eK bG (by simp)
      have jW := own_fr eL bG (by simp)
      have jX := own_fr eM bG (by simp)
      have jY := svcsIn.fr eN bG (by simp)
      have jZ := own_fr jS bG (by simp)
      refine WLs (c' := #[.int .i64 (rnE (V.leases.filter (pruneP V.now)) (outV V.snats dip) ((minL (oldL V (outV V.snats dip) dip)).first) dip V.now), .int .u32 0, .int .i64 0, .int .u32 0, .int .i64 0]) bH 1 52 g3 0 (.agg #[.int .i64 (rnE (V.leases.filter (pruneP V.now)) (outV V.snats dip) ((minL (oldL V (outV V.snats dip) dip)).first) dip V.now), .int .u32 0, .int .i64 0, .int .u32 0, .int .i64 0]) (by kernel_rfl) rfl (by kernel_rfl) (fun nG ck eP => ?_)
      have j0 := own_fr jV ck (bH.apartM 0 1 rfl rfl)
      have j1 := own_fr jW ck (bH.apartM 1 1 rfl rfl)
      have j2 := own_fr jX ck (bH.apartM 2 1 rfl rfl)
      have j3 := svcsIn.fr jY ck (bH.apartM 4 1 rfl rfl)
      have j4 := own_fr jZ ck (bH.apartM 5 1 rfl rfl)
      refine WLd rfl (QXn (eO _ _ ?_))
      refine WC.ret ?_
      refine QXr ?_
      refine (hret' _ _ (.agg #[.int .i64 (rnE (V.leases.filter (pruneP V.now)) (outV V.snats dip) ((minL (oldL V (outV V.snats dip) dip)).first) dip V.now), .int .u32 0, .int .i64 0, .int .u32 0, .int .i64 0]) (fun a ha => ?_) ?_).1
      ·
       exact res_run ha ((ResR.cell rfl (run_ld (eP.get 1 rfl) rfl) ResR.nil)) rfl
      clear hN hret hret' eO dy dx dw cg bC cf cd cc ca b9 b8 b7 b6 bh bg bf be hK2
      have hE_ : lendE V (outV V.snats dip) dip = rnE (leaL V) (outV V.snats dip) (minL (oldL V (outV V.snats dip) dip)).first dip V.now := by unfold lendE; rw [if_neg (fun e_ => by rw [e_] at hon_; simp at hon_; omega)]
      have hL_ : lendL V (outV V.snats dip) dip = rnL (leaL V) (outV V.snats dip) (minL (oldL V (outV V.snats dip) dip)).first dip V.now := by unfold lendL; rw [if_neg (fun e_ => by rw [e_] at hon_; simp at hon_; omega)]
      have hX_ : lendX V (outV V.snats dip) dip = rnX (leaL V) (outV V.snats dip) (minL (oldL V (outV V.snats dip) dip)).first dip V.now := by unfold lendX; rw [if_neg (fun e_ => by rw [e_] at hon_; simp at hon_; omega)]
      have hz_ : ¬ rnE (leaL V) (outV V.snats dip) (minL (oldL V (outV V.snats dip) dip)).first dip V.now = 0 := (by have q_ := a6; simpa [leaL] using q_)
      have hR_ : leaseR V dip = ⟨rnE (leaL V) (outV V.snats dip) (minL (oldL V (outV V.snats dip) dip)).first dip V.now, noL⟩ := by unfold leaseR; rw [if_neg (by rw [aG]; decide)]; rw [hE_, if_neg hz_]
      have hV_ : leaseC V dip = { V with leases := leaL V } := by unfold leaseC; rw [if_neg (by rw [aG]; decide)]; rw [hE_, if_neg hz_]
      rw [hR_, hV_]
      have j5 := Cx.pickM eP [0] [0, 1, 2, 4, 5] (by decide) rfl rfl
      have j6 := Cx_sw5 j5
      obtain ⟨j7, fh, dP⟩ := cfg_close (V := { V with leases := leaL V }) (xs := xs) j6 j0 j1 j2 j4 j3 hvals
      exact ⟨_, rfl, fh, j7, dP⟩
     ·
      have l4 : (decide (rnE (V.leases.filter (pruneP V.now)) (outV V.snats dip) ((minL (oldL V (outV V.snats dip) dip)).first) dip V.now = 0)) = true := by first | (simpa only [Bool.not_eq_true', Bool.not_eq_false'] using a6) | simpa using a6
      refine WCf rfl (WC.skip (QXn (dx _ _ ?_)))
      refine WCs (fun nH eQ => ?_)
      refine WCg (WLq 5 [(128, .pointer (some ⟨p, 5, none⟩)), (127, .pointer (some ⟨p, 0, none⟩)), (126, .pointer (some ⟨p, 0, none⟩)), (125, .slice cQ ((rnX (V.leases.filter (pruneP V.now)) (outV V.snats dip) ((minL (oldL V (outV V.snats dip) dip)).first) dip V.now).length) cR), (124, .pointer (some ⟨p, 0, none⟩))] ?_)
      refine WLs (c' := #[.int .i64 V.epoch, .int .i64 V.now, .slice AS xs.length cS, .slice AN V.snats.length cN, .slice AK V.sick.length cK, .slice cQ ((rnX (V.leases.filter (pruneP V.now)) (outV V.snats dip) ((minL (oldL V (outV V.snats dip) dip)).first) dip V.now).length) cR]) a5 0 29 p 5 (.slice cQ ((rnX (V.leases.filter (pruneP V.now)) (outV V.snats dip) ((minL (oldL V (outV V.snats dip) dip)).first) dip V.now).length) cR) (by kernel_rfl) rfl (by kernel_rfl) (fun nI cl a7 => ?_)
      have j8 := own_fr eK cl (a5.apartM 0 0 rfl rfl)
      have j9 := own_fr eL cl (a5.apartM 1 0 rfl rfl)
      have ka := own_fr eM cl (a5.apartM 2 0 rfl rfl)
      have kb := svcsIn.fr eN cl (a5.apartM 4 0 rfl rfl)
      have kc := own_fr jT cl (a5.apartM 8 0 rfl rfl)
      refine WLd rfl (QXn (eQ _ _ ?_))
      refine WCs (fun nJ eR => ?_)
      refine WCg ?_
      refine WLo 50 (.pointer (some ⟨ce, 0, none⟩)) (.agg #[.int .u32 ((rnL (V.leases.filter (pruneP V.now)) (outV V.snats dip) ((minL (oldL V (outV V.snats dip) dip)).first) dip V.now).vip), .int .i64 ((rnL (V.leases.filter (pruneP V.now)) (outV V.snats dip) ((minL (oldL V (outV V.snats dip) dip)).first) dip V.now).first), .int .u32 ((rnL (V.leases.filter (pruneP V.now)) (outV V.snats dip) ((minL (oldL V (outV V.snats dip) dip)).first) dip V.now).dip), .int .i64 ((rnL (V.leases.filter (pruneP V.now)) (outV V.snats dip) ((minL (oldL V (outV V.snats dip) dip)).first) dip V.now).exp)]) 129 (run_ld (a7.get 2 rfl) rfl) ?_
      refine WLq 1 [(130, .agg #[.int .i64 0, .int .u32 ((rnL (V.leases.filter (pruneP V.now)) (outV V.snats dip) ((minL (oldL V (outV V.snats dip) dip)).first) dip V.now).vip), .int .i64 ((rnL (V.leases.filter (pruneP V.now)) (outV V.snats dip) ((minL (oldL V (outV V.snats dip) dip)).first) dip V.now).first), .int .u32 ((rnL (V.leases.filter (pruneP V.now)) (outV V.snats dip) ((minL (oldL V (outV V.snats dip) dip)).first) dip V.now).dip), .int .i64 ((rnL (V.leases.filter (pruneP V.now)) (outV V.snats dip) ((minL (oldL V (outV V.snats dip) dip)).first) dip V.now).exp)])] ?_
      refine WLs (c' := #[.int .i64 0, .int .u32 ((rnL (V.leases.filter (pruneP V.now)) (outV V.snats dip) ((minL (oldL V (outV V.snats dip) dip)).first) dip V.now).vip), .int .i64 ((rnL (V.leases.filter (pruneP V.now)) (outV V.snats dip) ((minL (oldL V (outV V.snats dip) dip)).first) dip V.now).first), .int .u32 ((rnL (V.leases.filter (pruneP V.now)) (outV V.snats dip) ((minL (oldL V (outV V.snats dip) dip)).first) dip V.now).dip), .int .i64 ((rnL (V.leases.filter (pruneP V.now)) (outV V.snats dip) ((minL (oldL V (outV V.snats dip) dip)).first) dip V.now).exp)]) a7 1 52 g3 0 (.agg #[.int .i64 0, .int .u32 ((rnL (V.leases.filter (pruneP V.now)) (outV V.snats dip) ((minL (oldL V (outV V.snats dip) dip)).first) dip V.now).vip), .int .i64 ((rnL (V.leases.filter (pruneP V.now)) (outV V.snats dip) ((minL (oldL V (outV V.snats dip) dip)).first) dip V.now).first), .int .u32 ((rnL (V.leases.filter (pruneP V.now)) (outV V.snats dip) ((minL (oldL V (outV V.snats dip) dip)).first) dip V.now).dip), .int .i64 ((rnL (V.leases.filter (pruneP V.now)) (outV V.snats dip) ((minL (oldL V (outV V.snats dip) dip)).first) dip V.now).exp)]) (by kernel_rfl) rfl (by kernel_rfl) (fun nK cm eS => ?_)
      have kd := own_fr j8 cm (a7.apartM 0 1 rfl rfl)
      have ke := own_fr j9 cm (a7.apartM 1 1 rfl rfl)
      have kf := own_fr ka cm (a7.apartM 2 1 rfl rfl)
      have kg := svcsIn.fr kb cm (a7.apartM 4 1 rfl rfl)
      have kh := own_fr kc cm (a7.apartM 8 1 rfl rfl)
      refine WLd rfl (QXn (eR _ _ ?_))
      refine WC.ret ?_
      refine (hret' _ _ (.agg #[.int .i64 0, .int .u32 ((rnL (V.leases.filter (pruneP V.now)) (outV V.snats dip) ((minL (oldL V (outV V.snats dip) dip)).first) dip V.now).vip), .int .i64 ((rnL (V.leases.filter (pruneP V.now)) (outV V.snats dip) ((minL (oldL V (outV V.snats dip) dip)).first) dip V.now).first), .int .u32 ((rnL (V.leases.filter (pruneP V.now)) (outV V.snats dip) ((minL (oldL V (outV V.snats dip) dip)).first) dip V.now).dip), .int .i64 ((rnL (V.leases.filter (pruneP V.now)) (outV V.snats dip) ((minL (oldL V (outV V.snats dip) dip)).first) dip V.now).exp)]) (fun a ha => ?_) ?_).1
      ·
       exact res_run ha ((ResR.cell rfl (run_ld (eS.get 1 rfl) rfl) ResR.nil)) rfl
      clear hN hret hret' eR eQ dy dx dw cg bC cf cd cc ca b9 b8 b7 b6 bh bg bf be hK2
      have hE_ : lendE V (outV V.snats dip) dip = rnE (leaL V) (outV V.snats dip) (minL (oldL V (outV V.snats dip) dip)).first dip V.now := by unfold lendE; rw [if_neg (fun e_ => by rw [e_] at hon_; simp at hon_; omega)]
      have hL_ : lendL V (outV V.snats dip) dip = rnL (leaL V) (outV V.snats dip) (minL (oldL V (outV V.snats dip) dip)).first dip V.now := by unfold lendL; rw [if_neg (fun e_ => by rw [e_] at hon_; simp at hon_; omega)]
      have hX_ : lendX V (outV V.snats dip) dip = rnX (leaL V) (outV V.snats dip) (minL (oldL V (outV V.snats dip) dip)).first dip V.now := by unfold lendX; rw [if_neg (fun e_ => by rw [e_] at hon_; simp at hon_; omega)]
      have hz_ : rnE (leaL V) (outV V.snats dip) (minL (oldL V (outV V.snats dip) dip)).first dip V.now = 0 := (by have q_ := a6; simpa [leaL] using q_)
      have hR_ : leaseR V dip = ⟨0, rnL (leaL V) (outV V.snats dip) (minL (oldL V (outV V.snats dip) dip)).first dip V.now⟩ := by unfold leaseR; rw [if_neg (by rw [aG]; decide)]; rw [hE_, if_pos hz_, hL_, hz_]
      have hV_ : leaseC V dip = { V with leases := rnX (leaL V) (outV V.snats dip) (minL (oldL V (outV V.snats dip) dip)).first dip V.now } := by unfold leaseC; rw [if_neg (by rw [aG]; decide)]; rw [hE_, if_pos hz_, hX_]
      rw [hR_, hV_]
      have ki := Cx.pickM eS [0] [0, 1, 2, 4, 8] (by decide) rfl rfl
      have kj := Cx_sw5 ki
      obtain ⟨kk, fi, dQ⟩ := cfg_close (V := { V with leases := rnX (leaL V) (outV V.snats dip) (minL (oldL V (outV V.snats dip) dip)).first dip V.now }) (xs := xs) kj kd ke kf kh kg hvals
      exact ⟨_, rfl, fi, kk, dQ⟩
    ·
     have l0 : (n5 : Int) ≤ 0 := by have q_ := of_decide_eq_false dv; omega
     refine WCf rfl ?_
     refine WC.drawC eB [ce] (by kernel_rfl) (fun l5 cn co aj => ?_)
     have kl := own_fr eC cn (by simp)
     have km := own_fr eD cn (by simp)
     have ko := own_fr eE cn (by simp)
     have kp := svcsIn.fr eF cn (by simp)
     have eT := own_fr eG cn (by simp)
     refine WDq (NPt hN) 0 104 (.pointer (some ⟨p, 0, none⟩)) aj ?_
     refine WDq (NPt hN) 1 105 (.pointer (some ⟨p, 0, none⟩)) aj ?_
     refine WDq (NPt hN) 2 106 (.pointer (some ⟨p, 0, none⟩)) aj ?_
     refine WDq (NPt hN) 3 107 (.pointer (some ⟨p, 5, none⟩)) aj ?_
     refine WDq (NPt hN) 5 109 (.int .u32 (outV V.snats dip)) aj ?_
     refine WDq (NPt hN) 6 110 (.int .u32 dip) aj ?_
     refine WDq (NPt hN) 7 111 (.pointer (some ⟨p, 0, none⟩)) aj ?_
     refine WDq (NPt hN) 8 112 (.pointer (some ⟨p, 0, none⟩)) aj ?_
     refine WDq (NPt hN) 9 113 (.pointer (some ⟨p, 0, none⟩)) aj ?_
     refine WDq (NPt hN) 10 114 (.pointer (some ⟨p, 1, none⟩)) aj ?_
     refine WDm (NPt hN) 4 29 (.pointer (some ⟨p, 5, none⟩)) (.slice aH ((V.leases.filter (pruneP V.now)).length) aI) 108 (fun _ hS_ => run_ld (Fr.has hS_ (co.get 0 rfl) (by simpa using co.ne 0 2 rfl rfl (by decide))) rfl) aj ?_
     refine WD.sem 11 (Instr.loadAt 3 (.pointer (some ⟨p, 1, none⟩))) 115 (.int .i64 V.now) (by kernel_rfl) (by kernel_rfl) (run_ld (co.get 0 rfl) rfl) aj ?_
     refine WD.call 12 (by kernel_rfl) rfl rfl rfl rfl rfl (by kernel_rfl) (Grant_ct aH aI (V.leases.filter (pruneP V.now)) (outV V.snats dip) dip V.now l5 (own_rd eT encL_len (by decide)) (fun l_ h_ => hw.lok l_ (List.mem_filter.1 h_).1) (by omega) hvip_ hd (hg.frN co.fr (fun b_ off_ e_ => by cases e_; exact h0))) ?_
     rintro _ nL ⟨v_, rfl, a8, cC⟩
     have a9 := co.callN a8 (own_ge cC) (own_lt cC)
     obtain ⟨cT, cU, rfl, l6⟩ := own_form cC
     have kq := own_base (b' := 0) cC (fun _ _ => Nat.zero_le _)
     have aF := aj.trans a8 (by simp)
     refine ⟨_, rfl, aF, ?_⟩
     have kr := own_fr kl a8 (by simp)
     have kt := own_fr km a8 (by simp)
     have ku := own_fr ko a8 (by simp)
     have kv := svcsIn.fr kp a8 (by simp)
     have kw := own_fr eT a8 (by simp)
     refine WDq (NPt hN) 13 103 (.tuple #[.slice cT ((grX (V.leases.filter (pruneP V.now)) (outV V.snats dip) dip V.now).length) cU, .agg #[.int .u32 ((grL (V.leases.filter (pruneP V.now)) (outV V.snats dip) dip V.now).vip), .int .i64 ((grL (V.leases.filter (pruneP V.now)) (outV V.snats dip) dip V.now).first), .int .u32 ((grL (V.leases.filter (pruneP V.now)) (outV V.snats dip) dip V.now).dip), .int .i64 ((grL (V.leases.filter (pruneP V.now)) (outV V.snats dip) dip V.now).exp)], errV 118 (grE (V.leases.filter (pruneP V.now)) (outV V.snats dip) dip V.now)]) aF ?_
     refine WDq (NPt hN) 14 117 (.slice cT ((grX (V.leases.filter (pruneP V.now)) (outV V.snats dip) dip V.now).length) cU) aF ?_
     refine WDq (NPt hN) 15 118 (.agg #[.int .u32 ((grL (V.leases.filter (pruneP V.now)) (outV V.snats dip) dip V.now).vip), .int .i64 ((grL (V.leases.filter (pruneP V.now)) (outV V.snats dip) dip V.now).first), .int .u32 ((grL (V.leases.filter (pruneP V.now)) (outV V.snats dip) dip V.now).dip), .int .i64 ((grL (V.leases.filter (pruneP V.now)) (outV V.snats dip) dip V.now).exp)]) aF ?_
     refine WDq (NPt hN) 16 119 (errV 118 (grE (V.leases.filter (pruneP V.now)) (outV V.snats dip) dip V.now)) aF ?_
     refine WDq (NPt hN) 17 10 (.slice cT ((grX (V.leases.filter (pruneP V.now)) (outV V.snats dip) dip V.now).length) cU) aF ?_
     obtain ⟨l7, kx, ba, bb⟩ := sto_run (c' := #[.int .u32 ((grL (V.leases.filter (pruneP V.now)) (outV V.snats dip) dip V.now).vip), .int .i64 ((grL (V.leases.filter (pruneP V.now)) (outV V.snats dip) dip V.now).first), .int .u32 ((grL (V.leases.filter (pruneP V.now)) (outV V.snats dip) dip V.now).dip), .int .i64 ((grL (V.leases.filter (pruneP V.now)) (outV V.snats dip) dip V.now).exp)]) Tryz.prog a9 2 50 ce 0 (.agg #[.int .u32 ((grL (V.leases.filter (pruneP V.now)) (outV V.snats dip) dip V.now).vip), .int .i64 ((grL (V.leases.filter (pruneP V.now)) (outV V.snats dip) dip V.now).first), .int .u32 ((grL (V.leases.filter (pruneP V.now)) (outV V.snats dip) dip V.now).dip), .int .i64 ((grL (V.leases.filter (pruneP V.now)) (outV V.snats dip) dip V.now).exp)]) rfl (by kernel_rfl)
     have eU := aF.trans ba (by first | (simp; done) | (simp [*]; done) | (have q_ := aF.size; simp; omega))
     refine WD.semU 18 (Instr.storeAt 50 (.pointer (some ⟨ce, 0, none⟩)) (.agg #[.int .u32 ((grL (V.leases.filter (pruneP V.now)) (outV V.snats dip) dip V.now).vip), .int .i64 ((grL (V.leases.filter (pruneP V.now)) (outV V.snats dip) dip V.now).first), .int .u32 ((grL (V.leases.filter (pruneP V.now)) (outV V.snats dip) dip V.now).dip), .int .i64 ((grL (V.leases.filter (pruneP V.now)) (outV V.snats dip) dip V.now).exp)])) (by kernel_rfl) (by kernel_rfl) kx eU ?_
     have eV := own_fr kr ba (a9.apartM 0 2 rfl rfl)
     have eW := own_fr kt ba (a9.apartM 1 2 rfl rfl)
     have eX := own_fr ku ba (a9.apartM 2 2 rfl rfl)
     have eY := svcsIn.fr kv ba (a9.apartM 4 2 rfl rfl)
     have ky := own_fr kw ba (a9.apartM 5 2 rfl rfl)
     have kz := own_fr kq ba (a9.apartM 8 2 rfl rfl)
     refine WDq (NPt hN) 19 12 (errV 118 (grE (V.leases.filter (pruneP V.now)) (outV V.snats dip) dip V.now)) eU ?_
     refine WD.done (by kernel_rfl) ?_
     refine QXn (bC _ _ ?_)
     refine WCs (fun nM dz => ?_)
     refine WCs (fun nN dA => ?_)
     refine WCg (WLq 1 [(120, errV 118 (grE (V.leases.filter (pruneP V.now)) (outV V.snats dip) dip V.now))] ?_)
     have kB : ∀ w_, Sem.run Tryz.prog (do eqGuard .neq 97 (Operand.tmp 120) (Operand.const (.nilIface)) (errV 118 (grE (V.leases.filter (pruneP V.now)) (outV V.snats dip) dip V.now)) (.nilIface); binOp .neq 97 (errV 118 (grE (V.leases.filter (pruneP V.now)) (outV V.snats dip) dip V.now)) (.nilIface)) w_ = .ok (.bool (!(decide (grE (V.leases.filter (pruneP V.now)) (outV V.snats dip) dip V.now = 0)))) w_ := fun w_ => (err_neq _ (grE (V.leases.filter (pruneP V.now)) (outV V.snats dip) dip V.now) (decide (grE (V.leases.filter (pruneP V.now)) (outV V.snats dip) dip V.now = 0)) (by rfl) _)
     refine WL.sem (do eqGuard .neq 97 (Operand.tmp 120) (Operand.const (.nilIface)) (errV 118 (grE (V.leases.filter (pruneP V.now)) (outV V.snats dip) dip V.now)) (.nilIface); binOp .neq 97 (errV 118 (grE (V.leases.filter (pruneP V.now)) (outV V.snats dip) dip V.now)) (.nilIface)) 121 (.bool (!(decide (grE (V.leases.filter (pruneP V.now)) (outV V.snats dip) dip V.now = 0)))) (by kernel_rfl) (kB _) ?_
     refine WLd rfl (QXn (dA _ _ ?_))
     refine WCa 121 (!(decide (grE (V.leases.filter (pruneP V.now)) (outV V.snats dip) dip V.now = 0))) rfl (fun bc => ?_) (fun bc => ?_)
     ·
      have l8 : (decide (grE (V.leases.filter (pruneP V.now)) (outV V.snats dip) dip V.now = 0)) = false := by first | (simpa only [Bool.not_eq_true', Bool.not_eq_false'] using bc) | simpa using bc
      refine WCt rfl ?_
      refine WCs (fun nO eZ => ?_)
      refine WCg (WLq 1 [(122, errV 118 (grE (V.leases.filter (pruneP V.now)) (outV V.snats dip) dip V.now))] ?_)
      refine WLc rfl rfl rfl rfl rfl (by kernel_rfl) (result_ct (grE (V.leases.filter (pruneP V.now)) (outV V.snats dip) dip V.now) l7) ?_
      rintro _ nP ⟨rfl, bI⟩
      refine ⟨_, rfl, ?_⟩
      have bJ := bb.call bI
      have kC := own_fr eV bI (by simp)
      have kD := own_fr eW bI (by simp)
      have kE := own_fr eX bI (by simp)
      have kF := svcsIn.fr eY bI (by simp)
      have kG := own_fr ky bI (by simp)
      refine WLs (c' := #[.int .i64 (grE (V.leases.filter (pruneP V.now)) (outV V.snats dip) dip V.now), .int .u32 0, .int .i64 0, .int .u32 0, .int .i64 0]) bJ 1 52 g3 0 (.agg #[.int .i64 (grE (V.leases.filter (pruneP V.now)) (outV V.snats dip) dip V.now), .int .u32 0, .int .i64 0, .int .u32 0, .int .i64 0]) (by kernel_rfl) rfl (by kernel_rfl) (fun nQ cp e0 => ?_)
      have kH := own_fr kC cp (bJ.apartM 0 1 rfl rfl)
      have kI := own_fr kD cp (bJ.apartM 1 1 rfl rfl)
      have kJ := own_fr kE cp (bJ.apartM 2 1 rfl rfl)
      have kK := svcsIn.fr kF cp (bJ.apartM 4 1 rfl rfl)
      have kL := own_fr kG cp (bJ.apartM 5 1 rfl rfl)
      refine WLd rfl (QXn (eZ _ _ ?_))
      refine WC.ret ?_
      refine QXr ?_
      refine (hret' _ _ (.agg #[.int .i64 (grE (V.leases.filter (pruneP V.now)) (outV V.snats dip) dip V.now), .int .u32 0, .int .i64 0, .int .u32 0, .int .i64 0]) (fun a ha => ?_) ?_).1
      ·
       exact res_run ha ((ResR.cell rfl (run_ld (e0.get 1 rfl) rfl) ResR.nil)) rfl
      clear hN hret hret' eZ dA dz cg bC cf cd cc ca b9 b8 b7 b6 bh bg bf be hK2
      have hE_ : lendE V (outV V.snats dip) dip = grE (leaL V) (outV V.snats dip) dip V.now := by unfold lendE; rw [if_pos (List.eq_nil_of_length_eq_zero (by omega))]
      have hL_ : lendL V (outV V.snats dip) dip = grL (leaL V) (outV V.snats dip) dip V.now := by unfold lendL; rw [if_pos (List.eq_nil_of_length_eq_zero (by omega))]
      have hX_ : lendX V (outV V.snats dip) dip = grX (leaL V) (outV V.snats dip) dip V.now := by unfold lendX; rw [if_pos (List.eq_nil_of_length_eq_zero (by omega))]
      have hz_ : ¬ grE (leaL V) (outV V.snats dip) dip V.now = 0 := (by have q_ := bc; simpa [leaL] using q_)
      have hR_ : leaseR V dip = ⟨grE (leaL V) (outV V.snats dip) dip V.now, noL⟩ := by unfold leaseR; rw [if_neg (by rw [aG]; decide)]; rw [hE_, if_neg hz_]
      have hV_ : leaseC V dip = { V with leases := leaL V } := by unfold leaseC; rw [if_neg (by rw [aG]; decide)]; rw [hE_, if_neg hz_]
      rw [hR_, hV_]
      have kM := Cx.pickM e0 [0] [0, 1, 2, 4, 5] (by decide) rfl rfl
      have kO := Cx_sw5 kM
      obtain ⟨kP, fj, dR⟩ := cfg_close (V := { V with leases := leaL V }) (xs := xs) kO kH kI kJ kL kK hvals
      exact ⟨_, rfl, fj, kP, dR⟩
     ·
      have l8 : (decide (grE (V.leases.filter (pruneP V.now)) (outV V.snats dip) dip V.now = 0)) = true := by first | (simpa only [Bool.not_eq_true', Bool.not_eq_false'] using bc) | simpa using bc
      refine WCf rfl (WC.skip (QXn (dz _ _ ?_)))
      refine WCs (fun nR e1 => ?_)
      refine WCg (WLq 5 [(128, .pointer (some ⟨p, 5, none⟩)), (127, .pointer (some ⟨p, 0, none⟩)), (126, .pointer (some ⟨p, 0, none⟩)), (125, .slice cT ((grX (V.leases.filter (pruneP V.now)) (outV V.snats dip) dip V.now).length) cU), (124, .pointer (some ⟨p, 0, none⟩))] ?_)
      refine WLs (c' := #[.int .i64 V.epoch, .int .i64 V.now, .slice AS xs.length cS, .slice AN V.snats.length cN, .slice AK V.sick.length cK, .slice cT ((grX (V.leases.filter (pruneP V.now)) (outV V.snats dip) dip V.now).length) cU]) bb 0 29 p 5 (.slice cT ((grX (V.leases.filter (pruneP V.now)) (outV V.snats dip) dip V.now).length) cU) (by kernel_rfl) rfl (by kernel_rfl) (fun nS cq bd => ?_)
      have kQ := own_fr eV cq (bb.apartM 0 0 rfl rfl)
      have kR := own_fr eW cq (bb.apartM 1 0 rfl rfl)
      have kT := own_fr eX cq (bb.apartM 2 0 rfl rfl)
      have kU := svcsIn.fr eY cq (bb.apartM 4 0 rfl rfl)
      have kW := own_fr kz cq (bb.apartM 8 0 rfl rfl)
      refine WLd rfl (QXn (e1 _ _ ?_))
      refine WCs (fun nT e2 => ?_)
      refine WCg ?_
      refine WLo 50 (.pointer (some ⟨ce, 0, none⟩)) (.agg #[.int .u32 ((grL (V.leases.filter (pruneP V.now)) (outV V.snats dip) dip V.now).vip), .int .i64 ((grL (V.leases.filter (pruneP V.now)) (outV V.snats dip) dip V.now).first), .int .u32 ((grL (V.leases.filter (pruneP V.now)) (outV V.snats dip) dip V.now).dip), .int .i64 ((grL (V.leases.filter (pruneP V.now)) (outV V.snats dip) dip V.now).exp)]) 129 (run_ld (bd.get 2 rfl) rfl) ?_
      refine WLq 1 [(130, .agg #[.int .i64 0, .int .u32 ((grL (V.leases.filter (pruneP V.now)) (outV V.snats dip) dip V.now).vip), .int .i64 ((grL (V.leases.filter (pruneP V.now)) (outV V.snats dip) dip V.now).first), .int .u32 ((grL (V.leases.filter (pruneP V.now)) (outV V.snats dip) dip V.now).dip), .int .i64 ((grL (V.leases.filter (pruneP V.now)) (outV V.snats dip) dip V.now).exp)])] ?_
      refine WLs (c' := #[.int .i64 0, .int .u32 ((grL (V.leases.filter (pruneP V.now)) (outV V.snats dip) dip V.now).vip), .int .i64 ((grL (V.leases.filter (pruneP V.now)) (outV V.snats dip) dip V.now).first), .int .u32 ((grL (V.leases.filter (pruneP V.now)) (outV V.snats dip) dip V.now).dip), .int .i64 ((grL (V.leases.filter (pruneP V.now)) (outV V.snats dip) dip V.now).exp)]) bd 1 52 g3 0 (.agg #[.int .i64 0, .int .u32 ((grL (V.leases.filter (pruneP V.now)) (outV V.snats dip) dip V.now).vip), .int .i64 ((grL (V.leases.filter (pruneP V.now)) (outV V.snats dip) dip V.now).first), .int .u32 ((grL (V.leases.filter (pruneP V.now)) (outV V.snats dip) dip V.now).dip), .int .i64 ((grL (V.leases.filter (pruneP V.now)) (outV V.snats dip) dip V.now).exp)]) (by kernel_rfl) rfl (by kernel_rfl) (fun nU cr e3 => ?_)
      have kX := own_fr kQ cr (bd.apartM 0 1 rfl rfl)
      have kY := own_fr kR cr (bd.apartM 1 1 rfl rfl)
      have kZ := own_fr kT cr (bd.apartM 2 1 rfl rfl)
      have k0 := svcsIn.fr kU cr (bd.apartM 4 1 rfl rfl)
      have k1 := own_fr kW cr (bd.apartM 8 1 rfl rfl)
      refine WLd rfl (QXn (e2 _ _ ?_))
      refine WC.ret ?_
      refine (hret' _ _ (.agg #[.int .i64 0, .int .u32 ((grL (V.leases.filter (pruneP V.now)) (outV V.snats dip) dip V.now).vip), .int .i64 ((grL (V.leases.filter (pruneP V.now)) (outV V.snats dip) dip V.now).first), .int .u32 ((grL (V.leases.filter (pruneP V.now)) (outV V.snats dip) dip V.now).dip), .int .i64 ((grL (V.leases.filter (pruneP V.now)) (outV V.snats dip) dip V.now).exp)]) (fun a ha => ?_) ?_).1
      ·
       exact res_run ha ((ResR.cell rfl (run_ld (e3.get 1 rfl) rfl) ResR.nil)) rfl
      clear hN hret hret' e2 e1 dA dz cg bC cf cd cc ca b9 b8 b7 b6 bh bg bf be hK2
      have hE_ : lendE V (outV V.snats dip) dip = grE (leaL V) (outV V.snats dip) dip V.now := by unfold lendE; rw [if_pos (List.eq_nil_of_length_eq_zero (by omega))]
      have hL_ : lendL V (outV V.snats dip) dip = grL (leaL V) (outV V.snats dip) dip V.now := by unfold lendL; rw [if_pos (List.eq_nil_of_length_eq_zero (by omega))]
      have hX_ : lendX V (outV V.snats dip) dip = grX (leaL V) (outV V.snats dip) dip V.now := by unfold lendX; rw [if_pos (List.eq_nil_of_length_eq_zero (by omega))]
      have hz_ : grE (leaL V) (outV V.snats dip) dip V.now = 0 := (by have q_ := bc; simpa [leaL] using q_)
      have hR_ : leaseR V dip = ⟨0, grL (leaL V) (outV V.snats dip) dip V.now⟩ := by unfold leaseR; rw [if_neg (by rw [aG]; decide)]; rw [hE_, if_pos hz_, hL_, hz_]
      have hV_ : leaseC V dip = { V with leases := grX (leaL V) (outV V.snats dip) dip V.now } := by unfold leaseC; rw [if_neg (by rw [aG]; decide)]; rw [hE_, if_pos hz_, hX_]
      rw [hR_, hV_]
      have k2 := Cx.pickM e3 [0] [0, 1, 2, 4, 8] (by decide) rfl rfl
      have k3 := Cx_sw5 k2
      obtain ⟨k4, fk, dS⟩ := cfg_close (V := { V with leases := grX (leaL V) (outV V.snats dip) dip V.now }) (xs := xs) k3 kX kY kZ k1 k0 hvals
      exact ⟨_, rfl, fk, k4, dS⟩

end Go.Proofs.YtfligklljkcbfaaGreatDoor
