/- Contracts of functions of the program, each proved by a walk through its code; conditions stand in the statements. -/
import Derived.Test.YtfligklljkcbfaaGreatDoorStO16
namespace Go.Proofs.YtfligklljkcbfaaGreatDoor
set_option linter.unusedSimpArgs false
set_option linter.unusedVariables false
set_option linter.unusedSectionVars false
open Go Go.RowKit Go.Tw
set_option linter.unusedVariables false
set_option maxRecDepth 20000
theorem grE_zero {xs : List Lease} {vip dip now : Int} (h : grE xs vip dip now = 0) : checkL xs = true ∧ lgoodL ⟨vip, 1024, dip, 0⟩ = true ∧ 0 ≤ now ∧ now ≤ 1099511627776 ∧ (xs.filter (ofP dip now)).length < 4 ∧ (freeN xs vip now).isSome = true := by
  unfold grE at h
  split at h
  · rename_i h1
    split at h
    · cases h
    · rename_i h2
      split at h
      · rename_i h3
        simp only [Bool.and_eq_true] at h1
        have := goodTime_le h1.2
        exact ⟨h1.1.1, h1.1.2, this.1, this.2, Nat.lt_of_not_le h2, h3⟩
      · cases h
  · cases h
theorem freeN_lt {xs : List Lease} {vip now : Int} {n : Nat} (h : freeN xs vip now = some n) : n < 8064 := by
  unfold freeN at h
  rw [List.find?_range_eq_some] at h
  exact List.mem_range.1 h.2.1
theorem freeF_le (xs : List Lease) (vip now : Int) : 0 ≤ freeF xs vip now ∧ freeF xs vip now ≤ 65528 := by
  unfold freeF
  cases h : freeN xs vip now with
  | none => exact ⟨by decide, by decide⟩
  | some n => have := freeN_lt h; show (0 : Int) ≤ 1024 + 8 * (n : Int) ∧ (1024 + 8 * (n : Int)) ≤ 65528; omega
theorem mem_insL {xs : List Lease} {l x : Lease} (h : x ∈ insL xs l) : x ∈ xs ∨ x = l := by
  simp only [insL, List.mem_append, List.mem_cons, List.mem_filter] at h
  rcases h with h | h | h
  · exact .inl h.1
  · exact .inr h
  · exact .inl h.1
theorem grX_ok {xs : List Lease} {vip dip now : Int} (hwf : ∀ l ∈ xs, okL l) (hvip : 0 ≤ vip ∧ vip ≤ 4294967295) (hdip : 0 ≤ dip ∧ dip ≤ 4294967295) : ∀ l ∈ grX xs vip dip now, okL l := by
  intro l hl
  unfold grX at hl
  split at hl
  · rename_i h
    obtain ⟨_, _, h0, h1, _, _⟩ := grE_zero h
    rcases mem_insL hl with h2 | rfl
    · exact hwf l h2
    · unfold grL
      rw [if_pos h]
      have := freeF_le xs vip now
      simp only [okL]; omega
  · simp at hl
theorem part2 (p : Lease → Bool) (l : Lease) : ∀ xs : List Lease, ((xs.filter (ltL · l)).filter p).length + ((xs.filter (ltL l ·)).filter p).length ≤ (xs.filter p).length
  | [] => by simp
  | x :: r => by
    have ih := part2 p l r
    cases h1 : ltL x l
    · rw [List.filter_cons_of_neg (p := (ltL · l)) (by simp [h1])]
      cases h2 : ltL l x
      · rw [List.filter_cons_of_neg (p := (ltL l ·)) (by simp [h2])]
        cases h3 : p x
        · rw [List.filter_cons_of_neg (p := p) (l := r) (by simp [h3])]; exact ih
        · rw [List.filter_cons_of_pos (p := p) (l := r) h3, List.length_cons]; omega
      · rw [List.filter_cons_of_pos (p := (ltL l ·)) h2]
        cases h3 : p x
        · rw [List.filter_cons_of_neg (p := p) (by simp [h3]), List.filter_cons_of_neg (p := p) (by simp [h3])]; exact ih
        · rw [List.filter_cons_of_pos (p := p) h3, List.filter_cons_of_pos (p := p) h3, List.length_cons, List.length_cons]; omega
    · rw [List.filter_cons_of_pos (p := (ltL · l)) h1, List.filter_cons_of_neg (p := (ltL l ·)) (by simp [ltL_asym h1])]
      cases h3 : p x
      · rw [List.filter_cons_of_neg (p := p) (by simp [h3]), List.filter_cons_of_neg (p := p) (by simp [h3])]; exact ih
      · rw [List.filter_cons_of_pos (p := p) h3, List.filter_cons_of_pos (p := p) h3, List.length_cons, List.length_cons]; omega
theorem filter_ins (p : Lease → Bool) (xs : List Lease) (l : Lease) : ((insL xs l).filter p).length = ((xs.filter (ltL · l)).filter p).length + ((xs.filter (ltL l ·)).filter p).length + (if p l then 1 else 0) := by
  rw [insL, List.filter_append, List.length_append]
  cases h : p l
  · rw [List.filter_cons_of_neg (by simp [h])]; simp
  · rw [List.filter_cons_of_pos h, List.length_cons]; simp; omega
theorem len_insL1 (xs : List Lease) (l : Lease) : (insL xs l).length ≤ xs.length + 1 := by
  have h := filter_ins (fun _ => true) xs l
  have h2 := part2 (fun _ => true) l xs
  have e : ∀ l : List Lease, l.filter (fun _ => true) = l := fun l => List.filter_eq_self.2 (fun _ _ => rfl)
  simp only [e, if_true] at h h2
  omega
structure Alone (L G : List Lease) (now : Int) : Prop where
  chk : checkL L = true
  has : ∀ x ∈ G, now ≤ x.exp → ∃ y ∈ L, y.vip = x.vip ∧ y.first = x.first ∧ y.dip = x.dip ∧ x.exp ≤ y.exp
  cnt : ∀ dip, (L.filter (ofP dip now)).length ≤ 4
  late : ∀ x ∈ G, x.exp ≤ now + 64
  ok : ∀ x ∈ G, okL x
  okl : ∀ x ∈ L, okL x
theorem grX_len1 (L : List Lease) (vip dip now : Int) : (grX L vip dip now).length ≤ L.length + 1 := by
  unfold grX; split
  · exact len_insL1 _ _
  · simp
theorem rnX_len1 (L : List Lease) (vip first dip now : Int) : (rnX L vip first dip now).length ≤ L.length + 1 := by
  unfold rnX; split
  · exact len_insL1 _ _
  · simp
theorem goodC_time {c : CmdV} (h : goodC c = true) : 0 ≤ c.time ∧ c.time ≤ 1099511627776 := by
  unfold goodC at h
  simp only [Bool.and_eq_true] at h
  exact of_decide_eq_true h.2.2.2.1
theorem rnX_ok {xs : List Lease} {vip first dip now : Int} (hwf : ∀ l ∈ xs, okL l) (hvip : 0 ≤ vip ∧ vip ≤ 4294967295) (hdip : 0 ≤ dip ∧ dip ≤ 4294967295) : ∀ l ∈ rnX xs vip first dip now, okL l := by
  intro l hl
  unfold rnX at hl
  split at hl
  · rename_i h
    rcases mem_insL hl with h2 | rfl
    · exact hwf l h2
    · unfold rnL
      rw [if_pos h]
      unfold rnE at h
      split at h
      · rename_i h3
        simp only [Bool.and_eq_true] at h3
        have ht := goodTime_le h3.2
        split at h
        · rename_i h4
          obtain ⟨z, hz, hz2⟩ := List.any_eq_true.1 h4
          simp only [rnP, Bool.and_eq_true, decide_eq_true_eq] at hz2
          have := hwf z hz
          simp only [okL] at this ⊢
          omega
        · cases h
      · cases h
  · cases hl
theorem wf_tick {C : CfgV} {n : Nat} (h : wfCfg C n) {t : Int} (h0 : 0 ≤ t) (h1 : t ≤ 1099511627776) : wfCfg (tickC (cntC C) t) (n + 1) :=
  ⟨h.ssort, h.nsort, h.ksort, h.lok, h.nok, Nat.le_succ_of_le h.sn, Nat.le_succ_of_le h.nn, Nat.le_succ_of_le h.kn, Nat.le_succ_of_le h.ln,
    (by have := h.ep0; show 0 ≤ C.epoch + 1; omega), (by have := h.ep1; show C.epoch + 1 ≤ ((n + 1 : Nat) : Int); omega), (by have := h.now0; show 0 ≤ max C.now t; omega), (by have := h.now1; show max C.now t ≤ _; omega)⟩
theorem wf_cnt {C : CfgV} {n : Nat} (h : wfCfg C n) : wfCfg (cntC C) (n + 1) :=
  ⟨h.ssort, h.nsort, h.ksort, h.lok, h.nok, Nat.le_succ_of_le h.sn, Nat.le_succ_of_le h.nn, Nat.le_succ_of_le h.kn, Nat.le_succ_of_le h.ln,
    (by have := h.ep0; show 0 ≤ C.epoch + 1; omega), (by have := h.ep1; show C.epoch + 1 ≤ ((n + 1 : Nat) : Int); omega), h.now0, h.now1⟩
theorem leaL_len (C : CfgV) : (leaL C).length ≤ C.leases.length := List.length_filter_le _ _
theorem lendX_len (C : CfgV) (vip dip : Int) : (lendX C vip dip).length ≤ C.leases.length + 1 := by
  have := leaL_len C
  unfold lendX
  split
  · exact Nat.le_trans (grX_len1 _ _ _ _) (by omega)
  · exact Nat.le_trans (rnX_len1 _ _ _ _ _) (by omega)
theorem lendX_ok {C : CfgV} (h : ∀ l ∈ C.leases, okL l) {vip dip : Int} (hvip : isU32 vip) (hdip : isU32 dip) : ∀ l ∈ lendX C vip dip, okL l := by
  unfold lendX
  split
  · exact grX_ok (fun l hl => h l (in_leaL hl).1) hvip hdip
  · exact rnX_ok (fun l hl => h l (in_leaL hl).1) hvip hdip
theorem wf_apply {C : CfgV} {n : Nat} (h : wfCfg C n) {c : CmdV} (hd : isU32 c.dip) (hv : isU32 c.vip) : wfCfg (applyC C c) (n + 1) := by
  unfold applyC
  split
  · exact wf_cnt h
  · rename_i hg
    obtain ⟨t0, t1⟩ := goodC_time (by simpa using hg : goodC c = true)
    have k := wf_tick h t0 t1
    have e1 : (tickC (cntC C) c.time).svcs.length ≤ n := h.sn
    have e2 : (tickC (cntC C) c.time).snats.length ≤ n := h.nn
    have e3 : (tickC (cntC C) c.time).sick.length ≤ n := h.kn
    have e4 : (tickC (cntC C) c.time).leases.length ≤ n := h.ln
    generalize tickC (cntC C) c.time = D at k e1 e2 e3 e4
    split
    · unfold svcC
      split
      · exact k
      · exact { k with ssort := put_sort k.ssort, sn := Nat.le_trans (put_len k.ssort) (by omega) }
    · split
      · refine { k with nsort := put_sort k.nsort, nn := Nat.le_trans (put_len k.nsort) (by omega), nok := fun x hx => ?_ }
        rcases (put_mem k.nsort).1 hx with ⟨h1, _⟩ | ⟨_, rfl⟩
        · exact k.nok x h1
        · exact ⟨hd, hv⟩
      · split
        · exact { k with ksort := put_sort k.ksort, kn := Nat.le_trans (put_len k.ksort) (by omega) }
        · unfold leaseC
          split
          · exact k
          · refine { k with lok := ?_, ln := ?_ }
            · dsimp only
              split
              · exact lendX_ok k.lok (outV_u32 k.nok _) hd
              · exact fun l hl => k.lok l (in_leaL hl).1
            · dsimp only
              split
              · exact Nat.le_trans (lendX_len _ _ _) (by omega)
              · exact Nat.le_trans (leaL_len _) (by omega)
theorem wf_zero : wfCfg zeroC 0 :=
  ⟨List.Pairwise.nil, List.Pairwise.nil, List.Pairwise.nil, fun _ h => (nomatch h), fun _ h => (nomatch h), Nat.le_refl _, Nat.le_refl _, Nat.le_refl _, Nat.le_refl _, by decide, by decide, by decide, by decide⟩
theorem fold_step {L : List Cmd} {i : Nat} {m : Cmd} (h : L[i]? = some m) : foldC (vals (L.take (i + 1))) = applyC (foldC (vals (L.take i))) m.v := by
  obtain ⟨hi, rfl⟩ := List.getElem?_eq_some_iff.1 h
  rw [List.take_succ_eq_append_getElem hi, vals_snoc, foldC_snoc]
theorem res_step {L : List Cmd} {i : Nat} {m : Cmd} (h : L[i]? = some m) : resC (vals (L.take (i + 1))) = resC (vals (L.take i)) ++ [applyR (foldC (vals (L.take i))) m.v] := by
  obtain ⟨hi, rfl⟩ := List.getElem?_eq_some_iff.1 h
  rw [List.take_succ_eq_append_getElem hi, vals_snoc, resC_snoc]
def wfs (cs : List CmdV) : Prop := ∀ c ∈ cs, isU32 c.dip ∧ isU32 c.vip
theorem wf_fold {cs : List CmdV} (h : wfs cs) : wfCfg (foldC cs) cs.length := by
  suffices ∀ (cs : List CmdV) (C : CfgV) (n : Nat), wfCfg C n → wfs cs → wfCfg (foldFrom C cs) (n + cs.length) by
    have := this cs zeroC 0 wf_zero h; rwa [Nat.zero_add] at this
  intro cs
  induction cs with
  | nil => intro C n h _; exact h
  | cons c r ih =>
    intro C n hC hw
    have := ih (applyC C c) (n + 1) (wf_apply hC (hw c List.mem_cons_self).1 (hw c List.mem_cons_self).2) (fun x hx => hw x (List.mem_cons_of_mem _ hx))
    rw [List.length_cons, show n + (r.length + 1) = n + 1 + r.length from by omega]; exact this
theorem svc_of {w : World} {m : Cmd} (h : cmdAt w m) : svcAt w ⟨svcOf m.v, m.a, m.c⟩ := ⟨h.rd, h.wf.ends, h.wf.svip, h.wf.sproto, h.wf.sport, h.lim, h.cap⟩
theorem Cx_new5 {w : World} {p : Nat} {o : Obj} (hp : w.heap[p]? = some o) : Cx w [p] w [(p, o)] [[], [], [], [], []] :=
  ⟨.refl _ _, by simpa using hp, by simp, by simp, by simp, by simp, by simp, by simp⟩
theorem cfg_new {w : World} {p : Nat} (hp : w.heap[p]? = some (.cells #[.int .i64 0, .int .i64 0, .slice none 0 0, .slice none 0 0, .slice none 0 0, .slice none 0 0] 72 (0, 0))) : cfgAt w [p] p zeroC :=
  ⟨none, 0, [], none, 0, none, 0, none, 0, [], Cx_new5 hp, rfl, own_nil _ _ _ _, own_nil _ _ _ _, own_nil _ _ _ _, own_nil _ _ _ _, svcsIn.nil _ _, rfl⟩
theorem cmd_frE {w w' : World} {m : Cmd} {G : List Nat} (h : cmdAt w m) (hf : Fr w w' G) (hd : 0 < m.v.ends.length → ∀ b off, m.a = some ⟨b, off, none⟩ → b ∉ G) : cmdAt w' m := by
  refine ⟨⟨fun i x hx => ?_⟩, h.wf, h.lim, h.cap⟩
  obtain ⟨b, off, hA, hc⟩ := h.rd.at_ i x hx
  exact ⟨b, off, hA, fun j u hu => hf.cell (hc j u hu) (hd (by have := (List.getElem?_eq_some_iff.1 hx).1; omega) b off hA)⟩
theorem cmd_size {w : World} {m : Cmd} (h : cmdAt w m) (hne : 0 < m.v.ends.length) {b off : Nat} (hA : m.a = some ⟨b, off, none⟩) : b < w.heap.size := by
  have := h.rd
  rw [hA] at this
  exact rd_size this (fun _ => Nat.succ_pos _) hne
set_option maxHeartbeats 2000000 in
theorem apply_ct (F : List Nat) (p : Nat) (V : CfgV) (n : Nat) (c : Cmd) (w : World) (h : cfgAt w F p V) (hw : wfCfg V n) (hn : n + 1 ≤ 100000000000) (hc : cmdAt w c) (hcF : 0 < c.v.ends.length → ∀ b off, c.a = some ⟨b, off, none⟩ → b ∉ F) (h0 : 0 ∉ F) (hg : Rd w 1 (encI .u8) (some ⟨0, 0, none⟩) dbTab) : Calls Tryz.prog 31 #[P0 p 0, .agg #[I6 c.v.node, I6 c.v.boot, I6 c.v.seq, I6 c.v.time, I6 c.v.kind, U4 c.v.svip, I6 c.v.sproto, I6 c.v.sport, .slice c.a c.v.ends.length c.c, U4 c.v.dip, U4 c.v.vip, .bool c.v.up]] w fun e w' => ∃ F2, e = .returned (.agg #[I6 ((applyR V c.v).err), U4 ((applyR V c.v).lease.vip), I6 ((applyR V c.v).lease.first), U4 ((applyR V c.v).lease.dip), I6 ((applyR V c.v).lease.exp)]) ∧ Fr w w' F ∧ cfgAt w' F2 p (applyC V c.v) ∧ ∀ x ∈ F2, x ∈ F ∨ w.heap.size ≤ x := by
 refine enterD (n := 55) Tryz.func31 rfl rfl (Nat.le_of_ble_eq_true rfl) ?_
 intro Q0 hN hret hret'
 obtain ⟨AS, cS, xs, AN, cN, AK, cK, AL, cL, R, hC, hF_, hrS, hrN, hrK, hrL, hin, hvals⟩ := h
 have hssx_ : sortK kS xs := sortK_map (by rw [hvals]; exact hw.ssort)
 have hslx_ : V.svcs.length = xs.length := by rw [← hvals, List.length_map]
 have hws1_ := hw.sn
 have hws2_ := hw.nn
 have hws3_ := hw.kn
 have hws4_ := hw.ln
 have hws5_ := hw.ep0
 have hws6_ := hw.ep1
 have hws7_ := hw.now0
 have hws8_ := hw.now1
 refine WCs (fun K1 hK2 => WCg (WLb hC (.cells #[I6 c.v.node, I6 c.v.boot, I6 c.v.seq, I6 c.v.time, I6 c.v.kind, U4 c.v.svip, I6 c.v.sproto, I6 c.v.sport, .slice c.a c.v.ends.length c.c, U4 c.v.dip, U4 c.v.vip, .bool c.v.up] 45) 3 (fun g3 w4 hb7 hF5 hC6 => WLb hC6 (.cells #[I6 0, U4 0, I6 0, U4 0, I6 0] 52) 4 (fun g8 w9 bG bH ai => ?_))))
 have bI := hF5.trans bH (by simp)
 refine WLd rfl (QXn (hK2 _ _ (WCs (fun cr aj => WCg (WLz 4 [(9, P0 p 0), (6, P0 p 0)] (WLo 3 (P0 p 0) (I6 V.epoch) 10 (run_ld (ai.get 0 rfl) rfl) (WLq 1 [(11, I6 (IntKind.i64.wrap (V.epoch + 1)))] ?_)))))))
 refine WLt (show (I6 (IntKind.i64.wrap (V.epoch + 1)) : Value) = I6 (V.epoch + 1) from by rw [wrap_in_i64 (V.epoch + 1) (by omega) (by omega)]) (WLz 3 [(14, P0 p 0)] (WLv (c' := #[I6 (V.epoch + 1), I6 V.now, .slice AS xs.length cS, .slice AN V.snats.length cN, .slice AK V.sick.length cK, .slice AL V.leases.length cL]) ai 0 3 p 0 (I6 (V.epoch + 1)) (fun ce bJ aM => ?_)))
 have bK := (bI.mono (G := [p]) (by simp)).trans bJ (fun _ h_ => .inl h_)
 refine WLd rfl (QXn (aj _ _ (WCs (fun cs ak => WCs (fun ct al => WCg (WLo 45 (P0 g3 0) (.agg #[I6 c.v.node, I6 c.v.boot, I6 c.v.seq, I6 c.v.time, I6 c.v.kind, U4 c.v.svip, I6 c.v.sproto, I6 c.v.sport, .slice c.a c.v.ends.length c.c, U4 c.v.dip, U4 c.v.vip, .bool c.v.up]) 15 (run_ld (aM.get 1 rfl) rfl) (WLk (Check_ct c ce (cmd_frE hc aM.fr hcF)) ?_)))))))
 rintro _ cf ⟨rfl, aQ⟩
 refine ⟨_, rfl, ?_⟩
 have aR := aM.call aQ
 have aS := bK.trans aQ (by simp)
 refine WLq 1 [(5, errV 118 (if goodC c.v then 0 else 9))] (WLd rfl (QXn (al _ _ (WCs (fun cu am => WCg (WLq 1 [(17, errV 118 (if goodC c.v then 0 else 9))] ?_))))))
 have bL : ∀ w_, Sem.run Tryz.prog (do eqGuard .neq 97 (Operand.tmp 17) (Operand.const (.nilIface)) (errV 118 (if goodC c.v then 0 else 9)) (.nilIface); binOp .neq 97 (errV 118 (if goodC c.v then 0 else 9)) (.nilIface)) w_ = .ok (.bool (!(goodC c.v))) w_ := fun w_ => (err_neq _ (if goodC c.v then 0 else 9) (goodC c.v) (by cases goodC c.v <;> rfl) _)
 refine WL.sem (do eqGuard .neq 97 (Operand.tmp 17) (Operand.const (.nilIface)) (errV 118 (if goodC c.v then 0 else 9)) (.nilIface); binOp .neq 97 (errV 118 (if goodC c.v then 0 else 9)) (.nilIface)) 18 (.bool (!(goodC c.v))) (by kernel_rfl) (bL _) (WLd rfl (QXn (am _ _ (WCa 18 (!(goodC c.v)) rfl (fun an => ?_) (fun an => ?_)))))
 ·
  have ah : (goodC c.v) = false := by first | (simpa only [Bool.not_eq_true', Bool.not_eq_false'] using an) | simpa using an
  refine WCt rfl (WCs (fun cv aT => WCg (WLq 1 [(19, errV 118 (if goodC c.v then 0 else 9))] (WLk (result_ct (if goodC c.v then 0 else 9) cf) ?_))))
  rintro _ cw ⟨rfl, aU⟩
  refine ⟨_, rfl, ?_⟩
  have bM := aR.call aU
  have bN := aS.trans aU (by simp)
  refine WLv (c' := #[I6 (if goodC c.v then 0 else 9), U4 0, I6 0, U4 0, I6 0]) bM 2 52 g8 0 (.agg #[I6 (if goodC c.v then 0 else 9), U4 0, I6 0, U4 0, I6 0]) (fun cx bO aV => ?_)
  have ao := bN.trans bO (fun x_ h_ => .inr (by rw [List.mem_singleton] at h_; subst h_; exact (Nat.le_trans hF5.size bG)))
  refine WLd rfl (QXn (aT _ _ (WC.ret (QXr ?_))))
  refine (hret' _ _ (.agg #[I6 (if goodC c.v then 0 else 9), U4 0, I6 0, U4 0, I6 0]) (fun a ha => ?_) ?_).1
  ·
   exact res_run ha ((ResR.cell rfl (run_ld (aV.get 2 rfl) rfl) ResR.nil)) rfl
  clear hN hret hret' aT am al ak aj hK2
  have bP := Cx.pickM aV [0] [0, 1, 2, 3, 4] (by decide) rfl rfl
  obtain ⟨bQ, aW, aN⟩ := cfg_close (V := cntC V) (xs := xs) bP (own_fr hrS ao (ai.apartM 0 0 rfl rfl)) (own_fr hrN ao (ai.apartM 1 0 rfl rfl)) (own_fr hrK ao (ai.apartM 2 0 rfl rfl)) (own_fr hrL ao (ai.apartM 3 0 rfl rfl)) (svcsIn.fr hin ao (ai.apartM 4 0 rfl rfl)) hvals
  have hR_ : applyR V c.v = errR 9 := by unfold applyR; rw [if_pos ah]
  have hV_ : applyC V c.v = cntC V := by unfold applyC; rw [if_pos ah]
  rw [hR_, hV_]
  exact ⟨_, by rw [ah]; rfl, aW, bQ, aN⟩
 ·
  have ah : (goodC c.v) = true := by first | (simpa only [Bool.not_eq_true', Bool.not_eq_false'] using an) | simpa using an
  refine WCf rfl (WC.skip (QXn (ak _ _ (WCs (fun cy ap => WC.drawC aR [p] (by kernel_rfl) (fun cz bR aa ac => ?_))))))
  have bS := aS.trans bR (by simp)
  refine WDx 6 [(0, 21, P0 p 0), (1, 22, P0 p 0), (2, 23, P0 p 0), (3, 24, P0 p 0), (4, 25, P0 p 1), (6, 27, P0 g3 3)] ac (WDm 7 3 (P0 g3 3) (I6 c.v.time) 28 (fun _ hS_ => run_ld (Fr.has hS_ (aa.get 1 rfl) (by simpa using aa.ne 1 0 rfl rfl (by decide))) rfl) ac (WD.sem 5 (Instr.loadAt 3 (P0 p 1)) 26 (I6 V.now) (by kernel_rfl) (by kernel_rfl) (run_ld (aa.get 0 rfl) rfl) ac ?_))
  have bT : ∀ w_, Sem.run Tryz.prog (Builtin.max_ #[3, 3] 3 #[I6 V.now, I6 c.v.time]) w_ = .ok (I6 (max V.now c.v.time)) w_ := fun w_ => run_maxI
  refine WD.semP (NPt hN) 8 (Builtin.max_ #[3, 3] 3 #[I6 V.now, I6 c.v.time]) 29 (I6 (max V.now c.v.time)) (by kernel_rfl) (by kernel_rfl) (fun _ _ => bT _) ac (WDx 3 [(9, 30, P0 p 0), (10, 31, P0 p 0), (11, 32, P0 p 1)] ac ?_)
  obtain ⟨bC, bU, aX, ad⟩ := sto_run (c' := #[I6 (V.epoch + 1), I6 (max V.now c.v.time), .slice AS xs.length cS, .slice AN V.snats.length cN, .slice AK V.sick.length cK, .slice AL V.leases.length cL]) Tryz.prog aa 0 3 p 1 (I6 (max V.now c.v.time)) rfl (by kernel_rfl)
  have bV := ac.trans aX (by first | (simp; done) | (simp [*]; done) | (have q_ := ac.size; simp; omega))
  refine WDu 12 bU bV ?_
  have ab := bS.trans aX (fun _ h_ => .inl h_)
  refine WDd (QXn (ap _ _ (WCs (fun cA aq => WCs (fun cB ar => WCg (WLq 1 [(33, P0 g3 4)] (WLo 3 (P0 g3 4) (I6 c.v.kind) 34 (run_ld (ad.get 1 rfl) rfl) ?_)))))))
  refine WLd rfl (QXn (ar _ _ (WC.block (WCs (fun cC au => WCg (WLz 2 [(35, .bool (c.v.kind == 1))] (WLd rfl (QXn (au _ _ (WCa 35 (c.v.kind == 1) rfl (fun ae => ?_) (fun ae => ?_)))))))))))
  ·
   have cg : c.v.kind = 1 := by simpa using ae
   refine WCt rfl (WCs (fun cD aY => WCg (WLq 2 [(38, P0 g3 5), (37, P0 p 0)] (WLo 43 (P0 g3 5) (.agg #[U4 c.v.svip, I6 c.v.sproto, I6 c.v.sport, .slice c.a c.v.ends.length c.c]) 39 (run_ld (ad.get 1 rfl) rfl) ?_))))
   obtain ⟨ht0_, ht1_⟩ := goodC_time ah
   have bW := Cx.pickM ad [0] [0, 1, 2, 3, 4] (by decide) rfl rfl
   obtain ⟨bX, cc, bY⟩ := cfg_close (V := (tickC (cntC V) c.v.time)) (xs := xs) bW (own_fr hrS ab (aa.apartM 0 0 rfl rfl)) (own_fr hrN ab (aa.apartM 1 0 rfl rfl)) (own_fr hrK ab (aa.apartM 2 0 rfl rfl)) (own_fr hrL ab (aa.apartM 3 0 rfl rfl)) (svcsIn.fr hin ab (aa.apartM 4 0 rfl rfl)) hvals
   have bZ := ad.toF 0 rfl
   have b0 := Cx_join bZ 3 4 rfl rfl (by decide)
   have b1 := Cx_join b0 2 3 rfl rfl (by decide)
   have b2 := Cx_join b1 1 2 rfl rfl (by decide)
   have b3 := Cx_join b2 0 1 rfl rfl (by decide)
   have b4 := Cx_join b3 5 0 rfl rfl (by decide)
   have aZ := Cx.pickM b4 [0, 1] [5] (by decide) rfl rfl
   refine WLk (service_ct (p :: (blk (.slice AS xs.length cS) ++ (blk (.slice AN V.snats.length cN) ++ (blk (.slice AK V.sick.length cK) ++ (blk (.slice AL V.leases.length cL) ++ R))))) p (tickC (cntC V) c.v.time) (n + 1) (⟨svcOf c.v, c.a, c.c⟩ : Svc) bC bX (wf_tick hw ht0_ ht1_) (by omega) (svc_of (cmd_frE hc aZ.fr hcF))) ?_
   rintro _ cE ⟨F82, rfl, b5, a0, aO⟩
   have a1 := aZ.callF 0 rfl b5 aO (cfgAt_lt a0)
   refine ⟨_, rfl, ?_⟩
   refine WLv (c' := #[I6 ((svcR (tickC (cntC V) c.v.time) (svcOf c.v)).err), U4 ((svcR (tickC (cntC V) c.v.time) (svcOf c.v)).lease.vip), I6 ((svcR (tickC (cntC V) c.v.time) (svcOf c.v)).lease.first), U4 ((svcR (tickC (cntC V) c.v.time) (svcOf c.v)).lease.dip), I6 ((svcR (tickC (cntC V) c.v.time) (svcOf c.v)).lease.exp)]) a1 1 52 g8 0 (.agg #[I6 ((svcR (tickC (cntC V) c.v.time) (svcOf c.v)).err), U4 ((svcR (tickC (cntC V) c.v.time) (svcOf c.v)).lease.vip), I6 ((svcR (tickC (cntC V) c.v.time) (svcOf c.v)).lease.first), U4 ((svcR (tickC (cntC V) c.v.time) (svcOf c.v)).lease.dip), I6 ((svcR (tickC (cntC V) c.v.time) (svcOf c.v)).lease.exp)]) (fun cF b6 aP => ?_)
   have b7 := cfgAt.fr a0 b6 (a1.apartM 0 1 rfl rfl)
   refine WLd rfl (QXn (aY _ _ (WC.ret (QXk (QXr ?_)))))
   refine (hret' _ _ (.agg #[I6 ((svcR (tickC (cntC V) c.v.time) (svcOf c.v)).err), U4 ((svcR (tickC (cntC V) c.v.time) (svcOf c.v)).lease.vip), I6 ((svcR (tickC (cntC V) c.v.time) (svcOf c.v)).lease.first), U4 ((svcR (tickC (cntC V) c.v.time) (svcOf c.v)).lease.dip), I6 ((svcR (tickC (cntC V) c.v.time) (svcOf c.v)).lease.exp)]) (fun a ha => ?_) ?_).1
   ·
    exact res_run ha ((ResR.cell rfl (run_ld (aP.get 1 rfl) rfl) ResR.nil)) rfl
   clear hN hret hret' aY au ar aq ap am al ak aj hK2
   have hR_ : applyR V c.v = svcR (tickC (cntC V) c.v.time) (svcOf c.v) := by unfold applyR; rw [if_neg (by rw [ah]; decide), if_pos (by simpa using ae)]
   have hV_ : applyC V c.v = svcC (tickC (cntC V) c.v.time) (svcOf c.v) := by unfold applyC; rw [if_neg (by rw [ah]; decide), if_pos (by simpa using ae)]
   rw [hR_, hV_]
   exact ⟨F82, rfl, aP.fr, b7, fun x_ h_ => aP.ownF _ (List.mem_of_getElem? (show _[0]? = some F82 from rfl)) x_ h_⟩
  ·
   have cg : ¬ (c.v.kind = 1) := by simpa using ae
   refine WCf rfl (WCs (fun cG aA => WCg (WLz 2 [(41, .bool (c.v.kind == 2))] (WLd rfl (QXn (aA _ _ (WCa 41 (c.v.kind == 2) rfl (fun ag => ?_) (fun ag => ?_))))))))
   ·
    have ch : c.v.kind = 2 := by simpa using ag
    refine WCt rfl (WCs (fun cH a2 => WCg (WLq 1 [(43, P0 p 0)] (WLo 45 (P0 g3 0) (.agg #[I6 c.v.node, I6 c.v.boot, I6 c.v.seq, I6 c.v.time, I6 c.v.kind, U4 c.v.svip, I6 c.v.sproto, I6 c.v.sport, .slice c.a c.v.ends.length c.c, U4 c.v.dip, U4 c.v.vip, .bool c.v.up]) 44 (run_ld (ad.get 1 rfl) rfl) ?_))))
    obtain ⟨ht0_, ht1_⟩ := goodC_time ah
    have a3 := Cx.pickM ad [0] [0, 1, 2, 3, 4] (by decide) rfl rfl
    obtain ⟨b8, cd, bD⟩ := cfg_close (V := (tickC (cntC V) c.v.time)) (xs := xs) a3 (own_fr hrS ab (aa.apartM 0 0 rfl rfl)) (own_fr hrN ab (aa.apartM 1 0 rfl rfl)) (own_fr hrK ab (aa.apartM 2 0 rfl rfl)) (own_fr hrL ab (aa.apartM 3 0 rfl rfl)) (svcsIn.fr hin ab (aa.apartM 4 0 rfl rfl)) hvals
    have a4 := ad.toF 0 rfl
    have a5 := Cx_join a4 3 4 rfl rfl (by decide)
    have a6 := Cx_join a5 2 3 rfl rfl (by decide)
    have a7 := Cx_join a6 1 2 rfl rfl (by decide)
    have a8 := Cx_join a7 0 1 rfl rfl (by decide)
    have a9 := Cx_join a8 5 0 rfl rfl (by decide)
    have ba := Cx.pickM a9 [0, 1] [5] (by decide) rfl rfl
    refine WLk (snat_ct (p :: (blk (.slice AS xs.length cS) ++ (blk (.slice AN V.snats.length cN) ++ (blk (.slice AK V.sick.length cK) ++ (blk (.slice AL V.leases.length cL) ++ R))))) p (tickC (cntC V) c.v.time) (n + 1) c bC b8 (wf_tick hw ht0_ ht1_) (by omega) ) ?_
    rintro _ ci ⟨F109, rfl, bb, aE, aB⟩
    have aF := ba.callF 0 rfl bb aB (cfgAt_lt aE)
    refine ⟨_, rfl, ?_⟩
    refine WLv (c' := #[I6 ((snatR (tickC (cntC V) c.v.time) ⟨c.v.dip, c.v.vip⟩ c.v.up).err), U4 ((snatR (tickC (cntC V) c.v.time) ⟨c.v.dip, c.v.vip⟩ c.v.up).lease.vip), I6 ((snatR (tickC (cntC V) c.v.time) ⟨c.v.dip, c.v.vip⟩ c.v.up).lease.first), U4 ((snatR (tickC (cntC V) c.v.time) ⟨c.v.dip, c.v.vip⟩ c.v.up).lease.dip), I6 ((snatR (tickC (cntC V) c.v.time) ⟨c.v.dip, c.v.vip⟩ c.v.up).lease.exp)]) aF 1 52 g8 0 (.agg #[I6 ((snatR (tickC (cntC V) c.v.time) ⟨c.v.dip, c.v.vip⟩ c.v.up).err), U4 ((snatR (tickC (cntC V) c.v.time) ⟨c.v.dip, c.v.vip⟩ c.v.up).lease.vip), I6 ((snatR (tickC (cntC V) c.v.time) ⟨c.v.dip, c.v.vip⟩ c.v.up).lease.first), U4 ((snatR (tickC (cntC V) c.v.time) ⟨c.v.dip, c.v.vip⟩ c.v.up).lease.dip), I6 ((snatR (tickC (cntC V) c.v.time) ⟨c.v.dip, c.v.vip⟩ c.v.up).lease.exp)]) (fun cj bc av => ?_)
    have bd := cfgAt.fr aE bc (aF.apartM 0 1 rfl rfl)
    refine WLd rfl (QXn (a2 _ _ (WC.ret (QXk (QXr ?_)))))
    refine (hret' _ _ (.agg #[I6 ((snatR (tickC (cntC V) c.v.time) ⟨c.v.dip, c.v.vip⟩ c.v.up).err), U4 ((snatR (tickC (cntC V) c.v.time) ⟨c.v.dip, c.v.vip⟩ c.v.up).lease.vip), I6 ((snatR (tickC (cntC V) c.v.time) ⟨c.v.dip, c.v.vip⟩ c.v.up).lease.first), U4 ((snatR (tickC (cntC V) c.v.time) ⟨c.v.dip, c.v.vip⟩ c.v.up).lease.dip), I6 ((snatR (tickC (cntC V) c.v.time) ⟨c.v.dip, c.v.vip⟩ c.v.up).lease.exp)]) (fun a ha => ?_) ?_).1
    ·
     exact res_run ha ((ResR.cell rfl (run_ld (av.get 1 rfl) rfl) ResR.nil)) rfl
    clear hN hret hret' a2 aA au ar aq ap am al ak aj hK2
    have hR_ : applyR V c.v = snatR (tickC (cntC V) c.v.time) ⟨c.v.dip, c.v.vip⟩ c.v.up := by unfold applyR; rw [if_neg (by rw [ah]; decide), if_neg (by simpa using ae), if_pos (by simpa using ag)]
    have hV_ : applyC V c.v = snatC (tickC (cntC V) c.v.time) ⟨c.v.dip, c.v.vip⟩ c.v.up := by unfold applyC; rw [if_neg (by rw [ah]; decide), if_neg (by simpa using ae), if_pos (by simpa using ag)]
    rw [hR_, hV_]
    exact ⟨F109, rfl, av.fr, bd, fun x_ h_ => av.ownF _ (List.mem_of_getElem? (show _[0]? = some F109 from rfl)) x_ h_⟩
   ·
    have ch : ¬ (c.v.kind = 2) := by simpa using ag
    refine WCf rfl (WCs (fun ck aw => WCg (WLz 2 [(46, .bool (c.v.kind == 3))] (WLd rfl (QXn (aw _ _ (WCa 46 (c.v.kind == 3) rfl (fun af => ?_) (fun af => ?_))))))))
    ·
     have b9 : c.v.kind = 3 := by simpa using af
     refine WCt rfl (WCs (fun cl aG => WCg (WLq 1 [(48, P0 p 0)] (WLo 45 (P0 g3 0) (.agg #[I6 c.v.node, I6 c.v.boot, I6 c.v.seq, I6 c.v.time, I6 c.v.kind, U4 c.v.svip, I6 c.v.sproto, I6 c.v.sport, .slice c.a c.v.ends.length c.c, U4 c.v.dip, U4 c.v.vip, .bool c.v.up]) 49 (run_ld (ad.get 1 rfl) rfl) ?_))))
     obtain ⟨ht0_, ht1_⟩ := goodC_time ah
     have be := Cx.pickM ad [0] [0, 1, 2, 3, 4] (by decide) rfl rfl
     obtain ⟨bf, ca, bE⟩ := cfg_close (V := (tickC (cntC V) c.v.time)) (xs := xs) be (own_fr hrS ab (aa.apartM 0 0 rfl rfl)) (own_fr hrN ab (aa.apartM 1 0 rfl rfl)) (own_fr hrK ab (aa.apartM 2 0 rfl rfl)) (own_fr hrL ab (aa.apartM 3 0 rfl rfl)) (svcsIn.fr hin ab (aa.apartM 4 0 rfl rfl)) hvals
     have bg := ad.toF 0 rfl
     have bh := Cx_join bg 3 4 rfl rfl (by decide)
     have bi := Cx_join bh 2 3 rfl rfl (by decide)
     have bj := Cx_join bi 1 2 rfl rfl (by decide)
     have bk := Cx_join bj 0 1 rfl rfl (by decide)
     have bl := Cx_join bk 5 0 rfl rfl (by decide)
     have bm := Cx.pickM bl [0, 1] [5] (by decide) rfl rfl
     refine WLk (health_ct (p :: (blk (.slice AS xs.length cS) ++ (blk (.slice AN V.snats.length cN) ++ (blk (.slice AK V.sick.length cK) ++ (blk (.slice AL V.leases.length cL) ++ R))))) p (tickC (cntC V) c.v.time) (n + 1) c bC bf (wf_tick hw ht0_ ht1_) (by omega) ) ?_
     rintro _ cm ⟨F136, rfl, bn, aH, aC⟩
     have aI := bm.callF 0 rfl bn aC (cfgAt_lt aH)
     refine ⟨_, rfl, ?_⟩
     refine WLv (c' := #[I6 ((okR).err), U4 ((okR).lease.vip), I6 ((okR).lease.first), U4 ((okR).lease.dip), I6 ((okR).lease.exp)]) aI 1 52 g8 0 (.agg #[I6 ((okR).err), U4 ((okR).lease.vip), I6 ((okR).lease.first), U4 ((okR).lease.dip), I6 ((okR).lease.exp)]) (fun cn bo ax => ?_)
     have bp := cfgAt.fr aH bo (aI.apartM 0 1 rfl rfl)
     refine WLd rfl (QXn (aG _ _ (WC.ret (QXk (QXr ?_)))))
     refine (hret' _ _ (.agg #[I6 ((okR).err), U4 ((okR).lease.vip), I6 ((okR).lease.first), U4 ((okR).lease.dip), I6 ((okR).lease.exp)]) (fun a ha => ?_) ?_).1
     ·
      exact res_run ha ((ResR.cell rfl (run_ld (ax.get 1 rfl) rfl) ResR.nil)) rfl
     clear hN hret hret' aG aw aA au ar aq ap am al ak aj hK2
     have hR_ : applyR V c.v = okR := by unfold applyR; rw [if_neg (by rw [ah]; decide), if_neg (by simpa using ae), if_neg (by simpa using ag), if_pos (by simpa using af)]
     have hV_ : applyC V c.v = sickC (tickC (cntC V) c.v.time) c.v.dip c.v.up := by unfold applyC; rw [if_neg (by rw [ah]; decide), if_neg (by simpa using ae), if_neg (by simpa using ag), if_pos (by simpa using af)]
     rw [hR_, hV_]
     exact ⟨F136, rfl, ax.fr, bp, fun x_ h_ => ax.ownF _ (List.mem_of_getElem? (show _[0]? = some F136 from rfl)) x_ h_⟩
    ·
     have b9 : ¬ (c.v.kind = 3) := by simpa using af
     refine WCf rfl (WC.skip (QXb (QXn (aq _ _ (WCs (fun co aJ => WCg (WLq 2 [(52, P0 g3 9), (51, P0 p 0)] (WLo 40 (P0 g3 9) (U4 c.v.dip) 53 (run_ld (ad.get 1 rfl) rfl) ?_))))))))
     obtain ⟨ht0_, ht1_⟩ := goodC_time ah
     have bq := Cx.pickM ad [0] [0, 1, 2, 3, 4] (by decide) rfl rfl
     obtain ⟨br, cb, bF⟩ := cfg_close (V := (tickC (cntC V) c.v.time)) (xs := xs) bq (own_fr hrS ab (aa.apartM 0 0 rfl rfl)) (own_fr hrN ab (aa.apartM 1 0 rfl rfl)) (own_fr hrK ab (aa.apartM 2 0 rfl rfl)) (own_fr hrL ab (aa.apartM 3 0 rfl rfl)) (svcsIn.fr hin ab (aa.apartM 4 0 rfl rfl)) hvals
     have bs := ad.toF 0 rfl
     have bt := Cx_join bs 3 4 rfl rfl (by decide)
     have bu := Cx_join bt 2 3 rfl rfl (by decide)
     have bv := Cx_join bu 1 2 rfl rfl (by decide)
     have bw := Cx_join bv 0 1 rfl rfl (by decide)
     have bx := Cx_join bw 5 0 rfl rfl (by decide)
     have ay := Cx.pickM bx [0, 1] [5] (by decide) rfl rfl
     refine WLk (lease_ct (p :: (blk (.slice AS xs.length cS) ++ (blk (.slice AN V.snats.length cN) ++ (blk (.slice AK V.sick.length cK) ++ (blk (.slice AL V.leases.length cL) ++ R))))) p (tickC (cntC V) c.v.time) (n + 1) c.v.dip bC br (wf_tick hw ht0_ ht1_) (by omega) hc.wf.dip (zero_notin h0 (dbTab_size hg) (fun x_ h_ => by have q_ := ay.ownF _ (List.mem_of_getElem? (show _[0]? = some _ from rfl)) x_ h_; exact q_)) (hg.frN ay.fr (fun b_ off_ e_ => by cases e_; exact h0))) ?_
     rintro _ cp ⟨F160, rfl, bz, aK, aD⟩
     have aL := ay.callF 0 rfl bz aD (cfgAt_lt aK)
     refine ⟨_, rfl, ?_⟩
     refine WLv (c' := #[I6 ((leaseR (tickC (cntC V) c.v.time) c.v.dip).err), U4 ((leaseR (tickC (cntC V) c.v.time) c.v.dip).lease.vip), I6 ((leaseR (tickC (cntC V) c.v.time) c.v.dip).lease.first), U4 ((leaseR (tickC (cntC V) c.v.time) c.v.dip).lease.dip), I6 ((leaseR (tickC (cntC V) c.v.time) c.v.dip).lease.exp)]) aL 1 52 g8 0 (.agg #[I6 ((leaseR (tickC (cntC V) c.v.time) c.v.dip).err), U4 ((leaseR (tickC (cntC V) c.v.time) c.v.dip).lease.vip), I6 ((leaseR (tickC (cntC V) c.v.time) c.v.dip).lease.first), U4 ((leaseR (tickC (cntC V) c.v.time) c.v.dip).lease.dip), I6 ((leaseR (tickC (cntC V) c.v.time) c.v.dip).lease.exp)]) (fun cq bA az => ?_)
     have bB := cfgAt.fr aK bA (aL.apartM 0 1 rfl rfl)
     refine WLd rfl (QXn (aJ _ _ (WC.ret ?_)))
     refine (hret' _ _ (.agg #[I6 ((leaseR (tickC (cntC V) c.v.time) c.v.dip).err), U4 ((leaseR (tickC (cntC V) c.v.time) c.v.dip).lease.vip), I6 ((leaseR (tickC (cntC V) c.v.time) c.v.dip).lease.first), U4 ((leaseR (tickC (cntC V) c.v.time) c.v.dip).lease.dip), I6 ((leaseR (tickC (cntC V) c.v.time) c.v.dip).lease.exp)]) (fun a ha => ?_) ?_).1
     ·
      exact res_run ha ((ResR.cell rfl (run_ld (az.get 1 rfl) rfl) ResR.nil)) rfl
     clear hN hret hret' aJ aw aA au ar aq ap am al ak aj hK2
     have hR_ : applyR V c.v = leaseR (tickC (cntC V) c.v.time) c.v.dip := by unfold applyR; rw [if_neg (by rw [ah]; decide), if_neg (by simpa using ae), if_neg (by simpa using ag), if_neg (by simpa using af)]
     have hV_ : applyC V c.v = leaseC (tickC (cntC V) c.v.time) c.v.dip := by unfold applyC; rw [if_neg (by rw [ah]; decide), if_neg (by simpa using ae), if_neg (by simpa using ag), if_neg (by simpa using af)]
     rw [hR_, hV_]
     exact ⟨F160, rfl, az.fr, bB, fun x_ h_ => az.ownF _ (List.mem_of_getElem? (show _[0]? = some F160 from rfl)) x_ h_⟩

end Go.Proofs.YtfligklljkcbfaaGreatDoor
