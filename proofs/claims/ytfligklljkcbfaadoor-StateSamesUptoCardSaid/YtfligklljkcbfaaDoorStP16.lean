/- Contracts of functions of the program, each proved by a walk through its code; conditions stand in the statements. -/
import Derived.Test.YtfligklljkcbfaaDoorStO16
namespace Go.Proofs.YtfligklljkcbfaaDoor
set_option linter.unusedSimpArgs false
set_option linter.unusedVariables false
set_option linter.unusedSectionVars false
open Go Go.RowKit Go.Tw
set_option linter.unusedVariables false
set_option maxRecDepth 20000
theorem grE_zero {xs : List Lease} {vip dip now : Int} (h : grE xs vip dip now = 0) : checkL xs = true ∧ lgoodL ⟨vip, 1024, dip, 0⟩ = true ∧ 0 ≤ now ∧ now ≤ 1099511627776 ∧ (xs.filter (ofP dip now)).length < 4 ∧ (freeN xs vip now).isSome = true := by
  unfold grE at h
  split at h
  · rename_i h1
    split at h
    · cases h
    · rename_i h2
      split at h
      · rename_i h3
        simp only [Bool.and_eq_true] at h1
        have := goodTime_le h1.2
        exact ⟨h1.1.1, h1.1.2, this.1, this.2, Nat.lt_of_not_le h2, h3⟩
      · cases h
  · cases h
theorem freeN_lt {xs : List Lease} {vip now : Int} {n : Nat} (h : freeN xs vip now = some n) : n < 8064 := by
  unfold freeN at h
  rw [List.find?_range_eq_some] at h
  exact List.mem_range.1 h.2.1
theorem freeF_le (xs : List Lease) (vip now : Int) : 0 ≤ freeF xs vip now ∧ freeF xs vip now ≤ 65528 := by
  unfold freeF
  cases h : freeN xs vip now with
  | none => exact ⟨by decide, by decide⟩
  | some n => have := freeN_lt h; show (0 : Int) ≤ 1024 + 8 * (n : Int) ∧ (1024 + 8 * (n : Int)) ≤ 65528; omega
theorem mem_insL {xs : List Lease} {l x : Lease} (h : x ∈ insL xs l) : x ∈ xs ∨ x = l := by
  simp only [insL, List.mem_append, List.mem_cons, List.mem_filter] at h
  rcases h with h | h | h
  · exact .inl h.1
  · exact .inr h
  · exact .inl h.1
theorem grX_ok {xs : List Lease} {vip dip now : Int} (hwf : ∀ l ∈ xs, okL l) (hvip : 0 ≤ vip ∧ vip ≤ 4294967295) (hdip : 0 ≤ dip ∧ dip ≤ 4294967295) : ∀ l ∈ grX xs vip dip now, okL l := by
  intro l hl
  unfold grX at hl
  split at hl
  · rename_i h
    obtain ⟨_, _, h0, h1, _, _⟩ := grE_zero h
    rcases mem_insL hl with h2 | rfl
    · exact hwf l h2
    · unfold grL
      rw [if_pos h]
      have := freeF_le xs vip now
      simp only [okL]; omega
  · simp at hl
theorem part2 (p : Lease → Bool) (l : Lease) : ∀ xs : List Lease, ((xs.filter (ltL · l)).filter p).length + ((xs.filter (ltL l ·)).filter p).length ≤ (xs.filter p).length
  | [] => by simp
  | x :: r => by
    have ih := part2 p l r
    cases h1 : ltL x l
    · rw [List.filter_cons_of_neg (p := (ltL · l)) (by simp [h1])]
      cases h2 : ltL l x
      · rw [List.filter_cons_of_neg (p := (ltL l ·)) (by simp [h2])]
        cases h3 : p x
        · rw [List.filter_cons_of_neg (p := p) (l := r) (by simp [h3])]; exact ih
        · rw [List.filter_cons_of_pos (p := p) (l := r) h3, List.length_cons]; omega
      · rw [List.filter_cons_of_pos (p := (ltL l ·)) h2]
        cases h3 : p x
        · rw [List.filter_cons_of_neg (p := p) (by simp [h3]), List.filter_cons_of_neg (p := p) (by simp [h3])]; exact ih
        · rw [List.filter_cons_of_pos (p := p) h3, List.filter_cons_of_pos (p := p) h3, List.length_cons, List.length_cons]; omega
    · rw [List.filter_cons_of_pos (p := (ltL · l)) h1, List.filter_cons_of_neg (p := (ltL l ·)) (by simp [ltL_asym h1])]
      cases h3 : p x
      · rw [List.filter_cons_of_neg (p := p) (by simp [h3]), List.filter_cons_of_neg (p := p) (by simp [h3])]; exact ih
      · rw [List.filter_cons_of_pos (p := p) h3, List.filter_cons_of_pos (p := p) h3, List.length_cons, List.length_cons]; omega
theorem filter_ins (p : Lease → Bool) (xs : List Lease) (l : Lease) : ((insL xs l).filter p).length = ((xs.filter (ltL · l)).filter p).length + ((xs.filter (ltL l ·)).filter p).length + (if p l then 1 else 0) := by
  rw [insL, List.filter_append, List.length_append]
  cases h : p l
  · rw [List.filter_cons_of_neg (by simp [h])]; simp
  · rw [List.filter_cons_of_pos h, List.length_cons]; simp; omega
theorem len_insL1 (xs : List Lease) (l : Lease) : (insL xs l).length ≤ xs.length + 1 := by
  have h := filter_ins (fun _ => true) xs l
  have h2 := part2 (fun _ => true) l xs
  have e : ∀ l : List Lease, l.filter (fun _ => true) = l := fun l => List.filter_eq_self.2 (fun _ _ => rfl)
  simp only [e, if_true] at h h2
  omega
structure Alone (L G : List Lease) (now : Int) : Prop where
  chk : checkL L = true
  has : ∀ x ∈ G, now ≤ x.exp → ∃ y ∈ L, y.vip = x.vip ∧ y.first = x.first ∧ y.dip = x.dip ∧ x.exp ≤ y.exp
  cnt : ∀ dip, (L.filter (ofP dip now)).length ≤ 4
  late : ∀ x ∈ G, x.exp ≤ now + 64
  ok : ∀ x ∈ G, okL x
  okl : ∀ x ∈ L, okL x
theorem grX_len1 (L : List Lease) (vip dip now : Int) : (grX L vip dip now).length ≤ L.length + 1 := by
  unfold grX; split
  · exact len_insL1 _ _
  · simp
theorem rnX_len1 (L : List Lease) (vip first dip now : Int) : (rnX L vip first dip now).length ≤ L.length + 1 := by
  unfold rnX; split
  · exact len_insL1 _ _
  · simp
theorem goodC_time {c : CmdV} (h : goodC c = true) : 0 ≤ c.time ∧ c.time ≤ 1099511627776 := by
  unfold goodC at h
  simp only [Bool.and_eq_true] at h
  exact of_decide_eq_true h.2.2.2.1
theorem rnX_ok {xs : List Lease} {vip first dip now : Int} (hwf : ∀ l ∈ xs, okL l) (hvip : 0 ≤ vip ∧ vip ≤ 4294967295) (hdip : 0 ≤ dip ∧ dip ≤ 4294967295) : ∀ l ∈ rnX xs vip first dip now, okL l := by
  intro l hl
  unfold rnX at hl
  split at hl
  · rename_i h
    rcases mem_insL hl with h2 | rfl
    · exact hwf l h2
    · unfold rnL
      rw [if_pos h]
      unfold rnE at h
      split at h
      · rename_i h3
        simp only [Bool.and_eq_true] at h3
        have ht := goodTime_le h3.2
        split at h
        · rename_i h4
          obtain ⟨z, hz, hz2⟩ := List.any_eq_true.1 h4
          simp only [rnP, Bool.and_eq_true, decide_eq_true_eq] at hz2
          have := hwf z hz
          simp only [okL] at this ⊢
          omega
        · cases h
      · cases h
  · cases hl
theorem wf_tick {C : CfgV} {n : Nat} (h : wfCfg C n) {t : Int} (h0 : 0 ≤ t) (h1 : t ≤ 1099511627776) : wfCfg (tickC (cntC C) t) (n + 1) :=
  ⟨h.ssort, h.nsort, h.ksort, h.lok, h.nok, Nat.le_succ_of_le h.sn, Nat.le_succ_of_le h.nn, Nat.le_succ_of_le h.kn, Nat.le_succ_of_le h.ln,
    (by have := h.ep0; show 0 ≤ C.epoch + 1; omega), (by have := h.ep1; show C.epoch + 1 ≤ ((n + 1 : Nat) : Int); omega), (by have := h.now0; show 0 ≤ max C.now t; omega), (by have := h.now1; show max C.now t ≤ _; omega)⟩
theorem wf_cnt {C : CfgV} {n : Nat} (h : wfCfg C n) : wfCfg (cntC C) (n + 1) :=
  ⟨h.ssort, h.nsort, h.ksort, h.lok, h.nok, Nat.le_succ_of_le h.sn, Nat.le_succ_of_le h.nn, Nat.le_succ_of_le h.kn, Nat.le_succ_of_le h.ln,
    (by have := h.ep0; show 0 ≤ C.epoch + 1; omega), (by have := h.ep1; show C.epoch + 1 ≤ ((n + 1 : Nat) : Int); omega), h.now0, h.now1⟩
theorem leaL_len (C : CfgV) : (leaL C).length ≤ C.leases.length := List.length_filter_le _ _
theorem lendX_len (C : CfgV) (vip dip : Int) : (lendX C vip dip).length ≤ C.leases.length + 1 := by
  have := leaL_len C
  unfold lendX
  split
  · exact Nat.le_trans (grX_len1 _ _ _ _) (by omega)
  · exact Nat.le_trans (rnX_len1 _ _ _ _ _) (by omega)
theorem lendX_ok {C : CfgV} (h : ∀ l ∈ C.leases, okL l) {vip dip : Int} (hvip : isU32 vip) (hdip : isU32 dip) : ∀ l ∈ lendX C vip dip, okL l := by
  unfold lendX
  split
  · exact grX_ok (fun l hl => h l (in_leaL hl).1) hvip hdip
  · exact rnX_ok (fun l hl => h l (in_leaL hl).1) hvip hdip
theorem wf_apply {C : CfgV} {n : Nat} (h : wfCfg C n) {c : CmdV} (hd : isU32 c.dip) (hv : isU32 c.vip) : wfCfg (applyC C c) (n + 1) := by
  unfold applyC
  split
  · exact wf_cnt h
  · rename_i hg
    obtain ⟨t0, t1⟩ := goodC_time (by simpa using hg : goodC c = true)
    have k := wf_tick h t0 t1
    have e1 : (tickC (cntC C) c.time).svcs.length ≤ n := h.sn
    have e2 : (tickC (cntC C) c.time).snats.length ≤ n := h.nn
    have e3 : (tickC (cntC C) c.time).sick.length ≤ n := h.kn
    have e4 : (tickC (cntC C) c.time).leases.length ≤ n := h.ln
    generalize tickC (cntC C) c.time = D at k e1 e2 e3 e4
    split
    · unfold svcC
      split
      · exact k
      · exact { k with ssort := put_sort k.ssort, sn := Nat.le_trans (put_len k.ssort) (by omega) }
    · split
      · refine { k with nsort := put_sort k.nsort, nn := Nat.le_trans (put_len k.nsort) (by omega), nok := fun x hx => ?_ }
        rcases (put_mem k.nsort).1 hx with ⟨h1, _⟩ | ⟨_, rfl⟩
        · exact k.nok x h1
        · exact ⟨hd, hv⟩
      · split
        · exact { k with ksort := put_sort k.ksort, kn := Nat.le_trans (put_len k.ksort) (by omega) }
        · unfold leaseC
          split
          · exact k
          · refine { k with lok := ?_, ln := ?_ }
            · dsimp only
              split
              · exact lendX_ok k.lok (outV_u32 k.nok _) hd
              · exact fun l hl => k.lok l (in_leaL hl).1
            · dsimp only
              split
              · exact Nat.le_trans (lendX_len _ _ _) (by omega)
              · exact Nat.le_trans (leaL_len _) (by omega)
theorem wf_zero : wfCfg zeroC 0 :=
  ⟨List.Pairwise.nil, List.Pairwise.nil, List.Pairwise.nil, fun _ h => (nomatch h), fun _ h => (nomatch h), Nat.le_refl _, Nat.le_refl _, Nat.le_refl _, Nat.le_refl _, by decide, by decide, by decide, by decide⟩
theorem fold_step {L : List Cmd} {i : Nat} {m : Cmd} (h : L[i]? = some m) : foldC (vals (L.take (i + 1))) = applyC (foldC (vals (L.take i))) m.v := by
  obtain ⟨hi, rfl⟩ := List.getElem?_eq_some_iff.1 h
  rw [List.take_succ_eq_append_getElem hi, vals_snoc, foldC_snoc]
theorem res_step {L : List Cmd} {i : Nat} {m : Cmd} (h : L[i]? = some m) : resC (vals (L.take (i + 1))) = resC (vals (L.take i)) ++ [applyR (foldC (vals (L.take i))) m.v] := by
  obtain ⟨hi, rfl⟩ := List.getElem?_eq_some_iff.1 h
  rw [List.take_succ_eq_append_getElem hi, vals_snoc, resC_snoc]
def wfs (cs : List CmdV) : Prop := ∀ c ∈ cs, isU32 c.dip ∧ isU32 c.vip
theorem wf_fold {cs : List CmdV} (h : wfs cs) : wfCfg (foldC cs) cs.length := by
  suffices ∀ (cs : List CmdV) (C : CfgV) (n : Nat), wfCfg C n → wfs cs → wfCfg (foldFrom C cs) (n + cs.length) by
    have := this cs zeroC 0 wf_zero h; rwa [Nat.zero_add] at this
  intro cs
  induction cs with
  | nil => intro C n h _; exact h
  | cons c r ih =>
    intro C n hC hw
    have := ih (applyC C c) (n + 1) (wf_apply hC (hw c List.mem_cons_self).1 (hw c List.mem_cons_self).2) (fun x hx => hw x (List.mem_cons_of_mem _ hx))
    rw [List.length_cons, show n + (r.length + 1) = n + 1 + r.length from by omega]; exact this
theorem svc_of {w : World} {m : Cmd} (h : cmdAt w m) : svcAt w ⟨svcOf m.v, m.a, m.c⟩ := ⟨h.rd, h.wf.ends, h.wf.svip, h.wf.sproto, h.wf.sport, h.lim, h.cap⟩
theorem Cx_new5 {w : World} {p : Nat} {o : Obj} (hp : w.heap[p]? = some o) : Cx w [p] w [(p, o)] [[], [], [], [], []] :=
  ⟨.refl _ _, by simpa using hp, by simp, by simp, by simp, by simp, by simp, by simp⟩
theorem cfg_new {w : World} {p : Nat} (hp : w.heap[p]? = some (.cells #[.int .i64 0, .int .i64 0, .slice none 0 0, .slice none 0 0, .slice none 0 0, .slice none 0 0] 69 (0, 0))) : cfgAt w [p] p zeroC :=
  ⟨none, 0, [], none, 0, none, 0, none, 0, [], Cx_new5 hp, rfl, own_nil _ _ _ _, own_nil _ _ _ _, own_nil _ _ _ _, own_nil _ _ _ _, svcsIn.nil _ _, rfl⟩
theorem cmd_frE {w w' : World} {m : Cmd} {G : List Nat} (h : cmdAt w m) (hf : Fr w w' G) (hd : 0 < m.v.ends.length → ∀ b off, m.a = some ⟨b, off, none⟩ → b ∉ G) : cmdAt w' m := by
  refine ⟨⟨fun i x hx => ?_⟩, h.wf, h.lim, h.cap⟩
  obtain ⟨b, off, hA, hc⟩ := h.rd.at_ i x hx
  exact ⟨b, off, hA, fun j u hu => hf.cell (hc j u hu) (hd (by have := (List.getElem?_eq_some_iff.1 hx).1; omega) b off hA)⟩
theorem cmd_size {w : World} {m : Cmd} (h : cmdAt w m) (hne : 0 < m.v.ends.length) {b off : Nat} (hA : m.a = some ⟨b, off, none⟩) : b < w.heap.size := by
  have := h.rd
  rw [hA] at this
  exact rd_size this (fun _ => Nat.succ_pos _) hne
set_option maxHeartbeats 2000000 in
theorem apply_ct (F : List Nat) (p : Nat) (V : CfgV) (n : Nat) (c : Cmd) (w : World) (h : cfgAt w F p V) (hw : wfCfg V n) (hn : n + 1 ≤ 100000000000) (hc : cmdAt w c) (hcF : 0 < c.v.ends.length → ∀ b off, c.a = some ⟨b, off, none⟩ → b ∉ F) (h0 : 0 ∉ F) (hg : Rd w 1 (encI .u8) (some ⟨0, 0, none⟩) dbTab) : Calls Tryd.prog 23 #[.pointer (some ⟨p, 0, none⟩), .agg #[.int .i64 c.v.node, .int .i64 c.v.boot, .int .i64 c.v.seq, .int .i64 c.v.time, .int .i64 c.v.kind, .int .u32 c.v.svip, .int .i64 c.v.sproto, .int .i64 c.v.sport, .slice c.a c.v.ends.length c.c, .int .u32 c.v.dip, .int .u32 c.v.vip, .bool c.v.up]] w fun e w' => ∃ F2, e = .returned (.agg #[.int .i64 ((applyR V c.v).err), .int .u32 ((applyR V c.v).lease.vip), .int .i64 ((applyR V c.v).lease.first), .int .u32 ((applyR V c.v).lease.dip), .int .i64 ((applyR V c.v).lease.exp)]) ∧ Fr w w' F ∧ cfgAt w' F2 p (applyC V c.v) ∧ ∀ x ∈ F2, x ∈ F ∨ w.heap.size ≤ x := by
 refine enterD (n := 55) Tryd.func23 rfl rfl (Nat.le_of_ble_eq_true rfl) ?_
 intro Q0 hN hret hret'
 obtain ⟨AS, cS, xs, AN, cN, AK, cK, AL, cL, R, hC, hF_, hrS, hrN, hrK, hrL, hin, hvals⟩ := h
 have hssx_ : sortK kS xs := sortK_map (by rw [hvals]; exact hw.ssort)
 have hslx_ : V.svcs.length = xs.length := by rw [← hvals, List.length_map]
 have hws1_ := hw.sn
 have hws2_ := hw.nn
 have hws3_ := hw.kn
 have hws4_ := hw.ln
 have hws5_ := hw.ep0
 have hws6_ := hw.ep1
 have hws7_ := hw.now0
 have hws8_ := hw.now1
 refine WCs (fun K1 hK2 => ?_)
 refine WCg ?_
 refine WL.newM hC (fun b => .pointer (some ⟨b, 0, none⟩)) (.cells #[.int .i64 c.v.node, .int .i64 c.v.boot, .int .i64 c.v.seq, .int .i64 c.v.time, .int .i64 c.v.kind, .int .u32 c.v.svip, .int .i64 c.v.sproto, .int .i64 c.v.sport, .slice c.a c.v.ends.length c.c, .int .u32 c.v.dip, .int .u32 c.v.vip, .bool c.v.up] 56) 3 (fun _ => by kernel_rfl) (fun g3 w4 hb7 hF5 hC6 => ?_)
 have ho8 := own_fr hrS hF5 (by simp)
 have ho9 := own_fr hrN hF5 (by simp)
 have ho10 := own_fr hrK hF5 (by simp)
 have ho11 := own_fr hrL hF5 (by simp)
 have hf12 := svcsIn.fr hin hF5 (by simp)
 have hf13 := (Fr.refl w []).trans hF5 (by simp)
 refine WL.newM hC6 (fun b => .pointer (some ⟨b, 0, none⟩)) (.cells #[.int .i64 0, .int .u32 0, .int .i64 0, .int .u32 0, .int .i64 0] 47) 4 (fun _ => by kernel_rfl) (fun g14 w15 hb18 hF16 hC17 => ?_)
 have ho19 := own_fr ho8 hF16 (by simp)
 have ho20 := own_fr ho9 hF16 (by simp)
 have ho21 := own_fr ho10 hF16 (by simp)
 have ho22 := own_fr ho11 hF16 (by simp)
 have hf23 := svcsIn.fr hf12 hF16 (by simp)
 have hf24 := hf13.trans hF16 (by simp)
 refine WLd rfl (QXn (hK2 _ _ ?_))
 refine WCs (fun K25 hK26 => ?_)
 refine WCg (WLr 4 [(9, .pointer (some ⟨p, 0, none⟩)), (8, .pointer (some ⟨p, 0, none⟩)), (7, .pointer (some ⟨p, 0, none⟩)), (6, .pointer (some ⟨p, 0, none⟩))] (fun _ => by kernel_rfl) ?_)
 refine WL.load 3 (.pointer (some ⟨p, 0, none⟩)) (.int .i64 V.epoch) 10 (by kernel_rfl) (run_ld (hC17.get 0 rfl) rfl) ?_
 refine WLr 1 [(11, .int .i64 (IntKind.i64.wrap (V.epoch + 1)))] (fun _ => by kernel_rfl) ?_
 refine WLt (show (.int .i64 (IntKind.i64.wrap (V.epoch + 1)) : Value) = .int .i64 (V.epoch + 1) from by rw [wrap_in_i64 (V.epoch + 1) (by omega) (by omega)]) ?_
 refine WLr 3 [(14, .pointer (some ⟨p, 0, none⟩)), (13, .pointer (some ⟨p, 0, none⟩)), (12, .pointer (some ⟨p, 0, none⟩))] (fun _ => by kernel_rfl) ?_
 refine WLs (c' := #[.int .i64 (V.epoch + 1), .int .i64 V.now, .slice AS xs.length cS, .slice AN V.snats.length cN, .slice AK V.sick.length cK, .slice AL V.leases.length cL]) hC17 0 3 p 0 (.int .i64 (V.epoch + 1)) (by kernel_rfl) rfl (by kernel_rfl) (fun w27 hF29 hC30 => ?_)
 have ho31 := own_fr ho19 hF29 (hC17.apartM 0 0 rfl rfl)
 have ho32 := own_fr ho20 hF29 (hC17.apartM 1 0 rfl rfl)
 have ho33 := own_fr ho21 hF29 (hC17.apartM 2 0 rfl rfl)
 have ho34 := own_fr ho22 hF29 (hC17.apartM 3 0 rfl rfl)
 have hf35 := svcsIn.fr hf23 hF29 (hC17.apartM 4 0 rfl rfl)
 refine WLd rfl (QXn (hK26 _ _ ?_))
 refine WCs (fun K36 hK37 => ?_)
 refine WCs (fun K38 hK39 => ?_)
 refine WCg ?_
 refine WL.load 56 (.pointer (some ⟨g3, 0, none⟩)) (.agg #[.int .i64 c.v.node, .int .i64 c.v.boot, .int .i64 c.v.seq, .int .i64 c.v.time, .int .i64 c.v.kind, .int .u32 c.v.svip, .int .i64 c.v.sproto, .int .i64 c.v.sport, .slice c.a c.v.ends.length c.c, .int .u32 c.v.dip, .int .u32 c.v.vip, .bool c.v.up]) 15 (by kernel_rfl) (run_ld (hC30.get 1 rfl) rfl) ?_
 refine WLc rfl rfl rfl rfl rfl (by kernel_rfl) (Check_ct c w27 (cmd_frE hc hC30.fr hcF)) ?_
 rintro _ w41 ⟨rfl, hF40⟩
 refine ⟨_, rfl, ?_⟩
 have hC42 := hC30.call hF40
 have ho43 := own_fr ho31 hF40 (by simp)
 have ho44 := own_fr ho32 hF40 (by simp)
 have ho45 := own_fr ho33 hF40 (by simp)
 have ho46 := own_fr ho34 hF40 (by simp)
 have hf47 := svcsIn.fr hf35 hF40 (by simp)
 refine WLr 1 [(5, errV 73 (if goodC c.v then 0 else 9))] (fun _ => by kernel_rfl) (WLd rfl (QXn (hK39 _ _ ?_)))
 refine WCs (fun K48 hK49 => ?_)
 refine WCg (WLr 1 [(17, errV 73 (if goodC c.v then 0 else 9))] (fun _ => by kernel_rfl) ?_)
 have hr50 : ∀ w_, Sem.run Tryd.prog (do eqGuard .neq 38 (Operand.tmp 17) (Operand.const (.nilIface)) (errV 73 (if goodC c.v then 0 else 9)) (.nilIface); binOp .neq 38 (errV 73 (if goodC c.v then 0 else 9)) (.nilIface)) w_ = .ok (.bool (!(goodC c.v))) w_ := fun w_ => (err_neq _ (if goodC c.v then 0 else 9) (goodC c.v) (by cases goodC c.v <;> rfl) _)
 refine WL.sem (do eqGuard .neq 38 (Operand.tmp 17) (Operand.const (.nilIface)) (errV 73 (if goodC c.v then 0 else 9)) (.nilIface); binOp .neq 38 (errV 73 (if goodC c.v then 0 else 9)) (.nilIface)) 18 (.bool (!(goodC c.v))) (by kernel_rfl) (hr50 _) ?_
 refine WLd rfl (QXn (hK49 _ _ ?_))
 refine WCa 18 (!(goodC c.v)) rfl (fun t51b => ?_) (fun t51b => ?_)
 ·
  have t51 : (goodC c.v) = false := by first | (simpa only [Bool.not_eq_true', Bool.not_eq_false'] using t51b) | simpa using t51b
  refine WCt rfl ?_
  refine WCs (fun K52 hK53 => ?_)
  refine WCg (WLr 1 [(19, errV 73 (if goodC c.v then 0 else 9))] (fun _ => by kernel_rfl) ?_)
  refine WLc rfl rfl rfl rfl rfl (by kernel_rfl) (result_ct (if goodC c.v then 0 else 9) w41) ?_
  rintro _ w55 ⟨rfl, hF54⟩
  refine ⟨_, rfl, ?_⟩
  have hC56 := hC42.call hF54
  have ho57 := own_fr ho43 hF54 (by simp)
  have ho58 := own_fr ho44 hF54 (by simp)
  have ho59 := own_fr ho45 hF54 (by simp)
  have ho60 := own_fr ho46 hF54 (by simp)
  have hf61 := svcsIn.fr hf47 hF54 (by simp)
  refine WLs (c' := #[.int .i64 (if goodC c.v then 0 else 9), .int .u32 0, .int .i64 0, .int .u32 0, .int .i64 0]) hC56 2 47 g14 0 (.agg #[.int .i64 (if goodC c.v then 0 else 9), .int .u32 0, .int .i64 0, .int .u32 0, .int .i64 0]) (by kernel_rfl) rfl (by kernel_rfl) (fun w62 hF64 hC65 => ?_)
  have ho66 := own_fr ho57 hF64 (hC56.apartM 0 2 rfl rfl)
  have ho67 := own_fr ho58 hF64 (hC56.apartM 1 2 rfl rfl)
  have ho68 := own_fr ho59 hF64 (hC56.apartM 2 2 rfl rfl)
  have ho69 := own_fr ho60 hF64 (hC56.apartM 3 2 rfl rfl)
  have hf70 := svcsIn.fr hf61 hF64 (hC56.apartM 4 2 rfl rfl)
  refine WLd rfl (QXn (hK53 _ _ ?_))
  refine WC.ret ?_
  refine QXr ?_
  refine (hret' _ _ (.agg #[.int .i64 (if goodC c.v then 0 else 9), .int .u32 0, .int .i64 0, .int .u32 0, .int .i64 0]) (fun a ha => ?_) ?_).1
  ·
   exact res_run ha ((ResR.cell rfl (run_ld (hC65.get 2 rfl) rfl) ResR.nil)) rfl
  clear hN hret hret' hK53 hK49 hK39 hK37 hK26 hK2
  have hC74 := Cx.pickM hC65 [0] [0, 1, 2, 3, 4] (by decide) rfl rfl
  obtain ⟨hT71, hfr72, hsub73⟩ := cfg_close (V := cntC V) (xs := xs) hC74 ho66 ho67 ho68 ho69 hf70 hvals
  have hR_ : applyR V c.v = errR 9 := by unfold applyR; rw [if_pos t51]
  have hV_ : applyC V c.v = cntC V := by unfold applyC; rw [if_pos t51]
  rw [hR_, hV_]
  exact ⟨_, by rw [t51]; rfl, hfr72, hT71, hsub73⟩
 ·
  have t51 : (goodC c.v) = true := by first | (simpa only [Bool.not_eq_true', Bool.not_eq_false'] using t51b) | simpa using t51b
  refine WCf rfl (WC.skip (QXn (hK37 _ _ ?_)))
  refine WCs (fun K75 hK76 => ?_)
  refine WC.drawC hC42 [p] (by kernel_rfl) (fun w77 hF78 hC79 hS80 => ?_)
  have ho81 := own_fr ho43 hF78 (by simp)
  have ho82 := own_fr ho44 hF78 (by simp)
  have ho83 := own_fr ho45 hF78 (by simp)
  have ho84 := own_fr ho46 hF78 (by simp)
  have hf85 := svcsIn.fr hf47 hF78 (by simp)
  refine WDp (NPt hN) 0 21 (.pointer (some ⟨p, 0, none⟩)) (by kernel_rfl) (fun _ => by kernel_rfl) hS80 ?_
  refine WDp (NPt hN) 1 22 (.pointer (some ⟨p, 0, none⟩)) (by kernel_rfl) (fun _ => by kernel_rfl) hS80 ?_
  refine WDp (NPt hN) 2 23 (.pointer (some ⟨p, 0, none⟩)) (by kernel_rfl) (fun _ => by kernel_rfl) hS80 ?_
  refine WDp (NPt hN) 3 24 (.pointer (some ⟨p, 0, none⟩)) (by kernel_rfl) (fun _ => by kernel_rfl) hS80 ?_
  refine WDp (NPt hN) 4 25 (.pointer (some ⟨p, 1, none⟩)) (by kernel_rfl) (fun _ => by kernel_rfl) hS80 ?_
  refine WDp (NPt hN) 6 27 (.pointer (some ⟨g3, 3, none⟩)) (by kernel_rfl) (fun _ => by kernel_rfl) hS80 ?_
  refine WDl (NPt hN) 7 3 (.pointer (some ⟨g3, 3, none⟩)) (.int .i64 c.v.time) 28 (by kernel_rfl) (by kernel_rfl) (fun _ hS_ => run_ld (Fr.has hS_ (hC79.get 1 rfl) (by simpa using hC79.ne 1 0 rfl rfl (by decide))) rfl) hS80 ?_
  refine WD.sem 5 (Instr.loadAt 3 (.pointer (some ⟨p, 1, none⟩))) 26 (.int .i64 V.now) (by kernel_rfl) (by kernel_rfl) (run_ld (hC79.get 0 rfl) rfl) hS80 ?_
  have hr86 : ∀ w_, Sem.run Tryd.prog (Builtin.max_ #[3, 3] 3 #[.int .i64 V.now, .int .i64 c.v.time]) w_ = .ok (.int .i64 (max V.now c.v.time)) w_ := fun w_ => run_maxI
  refine WD.semP (NPt hN) 8 (Builtin.max_ #[3, 3] 3 #[.int .i64 V.now, .int .i64 c.v.time]) 29 (.int .i64 (max V.now c.v.time)) (by kernel_rfl) (by kernel_rfl) (fun _ _ => hr86 _) hS80 ?_
  refine WDp (NPt hN) 9 30 (.pointer (some ⟨p, 0, none⟩)) (by kernel_rfl) (fun _ => by kernel_rfl) hS80 ?_
  refine WDp (NPt hN) 10 31 (.pointer (some ⟨p, 0, none⟩)) (by kernel_rfl) (fun _ => by kernel_rfl) hS80 ?_
  refine WDp (NPt hN) 11 32 (.pointer (some ⟨p, 1, none⟩)) (by kernel_rfl) (fun _ => by kernel_rfl) hS80 ?_
  obtain ⟨w87, hr88, hF89, hC90⟩ := sto_run (c' := #[.int .i64 (V.epoch + 1), .int .i64 (max V.now c.v.time), .slice AS xs.length cS, .slice AN V.snats.length cN, .slice AK V.sick.length cK, .slice AL V.leases.length cL]) Tryd.prog hC79 0 3 p 1 (.int .i64 (max V.now c.v.time)) rfl (by kernel_rfl)
  have hS91 := hS80.trans hF89 (by first | (simp; done) | (simp [*]; done) | (have q_ := hS80.size; simp; omega))
  refine WD.semU 12 (Instr.storeAt 3 (.pointer (some ⟨p, 1, none⟩)) (.int .i64 (max V.now c.v.time))) (by kernel_rfl) (by kernel_rfl) hr88 hS91 ?_
  have ho92 := own_fr ho81 hF89 (hC79.apartM 0 0 rfl rfl)
  have ho93 := own_fr ho82 hF89 (hC79.apartM 1 0 rfl rfl)
  have ho94 := own_fr ho83 hF89 (hC79.apartM 2 0 rfl rfl)
  have ho95 := own_fr ho84 hF89 (hC79.apartM 3 0 rfl rfl)
  have hf96 := svcsIn.fr hf85 hF89 (hC79.apartM 4 0 rfl rfl)
  refine WD.done (by kernel_rfl) ?_
  refine QXn (hK76 _ _ ?_)
  refine WCs (fun K97 hK98 => ?_)
  refine WCs (fun K99 hK100 => ?_)
  refine WCg (WLr 1 [(33, .pointer (some ⟨g3, 4, none⟩))] (fun _ => by kernel_rfl) ?_)
  refine WL.load 3 (.pointer (some ⟨g3, 4, none⟩)) (.int .i64 c.v.kind) 34 (by kernel_rfl) (run_ld (hC90.get 1 rfl) rfl) ?_
  refine WLd rfl (QXn (hK100 _ _ ?_))
  refine WC.block ?_
  refine WCs (fun K101 hK102 => ?_)
  refine WCg (WLr 2 [(35, .bool (c.v.kind == 1)), (36, .bool (c.v.kind == 1))] (fun _ => by kernel_rfl) (WLd rfl (QXn (hK102 _ _ ?_))))
  refine WCa 35 (c.v.kind == 1) rfl (fun t103b => ?_) (fun t103b => ?_)
  ·
   have t103 : c.v.kind = 1 := by simpa using t103b
   refine WCt rfl ?_
   refine WCs (fun K104 hK105 => ?_)
   refine WCg (WLr 2 [(38, .pointer (some ⟨g3, 5, none⟩)), (37, .pointer (some ⟨p, 0, none⟩))] (fun _ => by kernel_rfl) ?_)
   refine WL.load 52 (.pointer (some ⟨g3, 5, none⟩)) (.agg #[.int .u32 c.v.svip, .int .i64 c.v.sproto, .int .i64 c.v.sport, .slice c.a c.v.ends.length c.c]) 39 (by kernel_rfl) (run_ld (hC90.get 1 rfl) rfl) ?_
   obtain ⟨ht0_, ht1_⟩ := goodC_time t51
   have hC109 := Cx.pickM hC90 [0] [0, 1, 2, 3, 4] (by decide) rfl rfl
   obtain ⟨hT106, hfr107, hsub108⟩ := cfg_close (V := (tickC (cntC V) c.v.time)) (xs := xs) hC109 ho92 ho93 ho94 ho95 hf96 hvals
   have hC110 := hC90.toF 0 rfl
   have hC111 := Cx_join hC110 3 4 rfl rfl (by decide)
   have hC112 := Cx_join hC111 2 3 rfl rfl (by decide)
   have hC113 := Cx_join hC112 1 2 rfl rfl (by decide)
   have hC114 := Cx_join hC113 0 1 rfl rfl (by decide)
   have hC115 := Cx_join hC114 5 0 rfl rfl (by decide)
   have hC116 := Cx.pickM hC115 [0, 1] [5] (by decide) rfl rfl
   refine WLc rfl rfl rfl rfl rfl (by kernel_rfl) (service_ct (p :: (blk (.slice AS xs.length cS) ++ (blk (.slice AN V.snats.length cN) ++ (blk (.slice AK V.sick.length cK) ++ (blk (.slice AL V.leases.length cL) ++ R))))) p (tickC (cntC V) c.v.time) (n + 1) (⟨svcOf c.v, c.a, c.c⟩ : Svc) w87 hT106 (wf_tick hw ht0_ ht1_) (by omega) (svc_of (cmd_frE hc hC116.fr hcF))) ?_
   rintro _ w118 ⟨F117, rfl, hF119, hT120, hsub121⟩
   have hC122 := hC116.callF 0 rfl hF119 hsub121 (cfgAt_lt hT120)
   refine ⟨_, rfl, ?_⟩
   refine WLs (c' := #[.int .i64 ((svcR (tickC (cntC V) c.v.time) (svcOf c.v)).err), .int .u32 ((svcR (tickC (cntC V) c.v.time) (svcOf c.v)).lease.vip), .int .i64 ((svcR (tickC (cntC V) c.v.time) (svcOf c.v)).lease.first), .int .u32 ((svcR (tickC (cntC V) c.v.time) (svcOf c.v)).lease.dip), .int .i64 ((svcR (tickC (cntC V) c.v.time) (svcOf c.v)).lease.exp)]) hC122 1 47 g14 0 (.agg #[.int .i64 ((svcR (tickC (cntC V) c.v.time) (svcOf c.v)).err), .int .u32 ((svcR (tickC (cntC V) c.v.time) (svcOf c.v)).lease.vip), .int .i64 ((svcR (tickC (cntC V) c.v.time) (svcOf c.v)).lease.first), .int .u32 ((svcR (tickC (cntC V) c.v.time) (svcOf c.v)).lease.dip), .int .i64 ((svcR (tickC (cntC V) c.v.time) (svcOf c.v)).lease.exp)]) (by kernel_rfl) rfl (by kernel_rfl) (fun w123 hF125 hC126 => ?_)
   have hf127 := cfgAt.fr hT120 hF125 (hC122.apartM 0 1 rfl rfl)
   refine WLd rfl (QXn (hK105 _ _ ?_))
   refine WC.ret ?_
   refine QXk ?_
   refine QXr ?_
   refine (hret' _ _ (.agg #[.int .i64 ((svcR (tickC (cntC V) c.v.time) (svcOf c.v)).err), .int .u32 ((svcR (tickC (cntC V) c.v.time) (svcOf c.v)).lease.vip), .int .i64 ((svcR (tickC (cntC V) c.v.time) (svcOf c.v)).lease.first), .int .u32 ((svcR (tickC (cntC V) c.v.time) (svcOf c.v)).lease.dip), .int .i64 ((svcR (tickC (cntC V) c.v.time) (svcOf c.v)).lease.exp)]) (fun a ha => ?_) ?_).1
   ·
    exact res_run ha ((ResR.cell rfl (run_ld (hC126.get 1 rfl) rfl) ResR.nil)) rfl
   clear hN hret hret' hK105 hK102 hK100 hK98 hK76 hK49 hK39 hK37 hK26 hK2
   have hR_ : applyR V c.v = svcR (tickC (cntC V) c.v.time) (svcOf c.v) := by unfold applyR; rw [if_neg (by rw [t51]; decide), if_pos (by simpa using t103b)]
   have hV_ : applyC V c.v = svcC (tickC (cntC V) c.v.time) (svcOf c.v) := by unfold applyC; rw [if_neg (by rw [t51]; decide), if_pos (by simpa using t103b)]
   rw [hR_, hV_]
   exact ⟨F117, rfl, hC126.fr, hf127, fun x_ h_ => hC126.ownF _ (List.mem_of_getElem? (show _[0]? = some F117 from rfl)) x_ h_⟩
  ·
   have t103 : ¬ (c.v.kind = 1) := by simpa using t103b
   refine WCf rfl ?_
   refine WCs (fun K128 hK129 => ?_)
   refine WCg (WLr 2 [(41, .bool (c.v.kind == 2)), (42, .bool (c.v.kind == 2))] (fun _ => by kernel_rfl) (WLd rfl (QXn (hK129 _ _ ?_))))
   refine WCa 41 (c.v.kind == 2) rfl (fun t130b => ?_) (fun t130b => ?_)
   ·
    have t130 : c.v.kind = 2 := by simpa using t130b
    refine WCt rfl ?_
    refine WCs (fun K131 hK132 => ?_)
    refine WCg (WLr 1 [(43, .pointer (some ⟨p, 0, none⟩))] (fun _ => by kernel_rfl) ?_)
    refine WL.load 56 (.pointer (some ⟨g3, 0, none⟩)) (.agg #[.int .i64 c.v.node, .int .i64 c.v.boot, .int .i64 c.v.seq, .int .i64 c.v.time, .int .i64 c.v.kind, .int .u32 c.v.svip, .int .i64 c.v.sproto, .int .i64 c.v.sport, .slice c.a c.v.ends.length c.c, .int .u32 c.v.dip, .int .u32 c.v.vip, .bool c.v.up]) 44 (by kernel_rfl) (run_ld (hC90.get 1 rfl) rfl) ?_
    obtain ⟨ht0_, ht1_⟩ := goodC_time t51
    have hC136 := Cx.pickM hC90 [0] [0, 1, 2, 3, 4] (by decide) rfl rfl
    obtain ⟨hT133, hfr134, hsub135⟩ := cfg_close (V := (tickC (cntC V) c.v.time)) (xs := xs) hC136 ho92 ho93 ho94 ho95 hf96 hvals
    have hC137 := hC90.toF 0 rfl
    have hC138 := Cx_join hC137 3 4 rfl rfl (by decide)
    have hC139 := Cx_join hC138 2 3 rfl rfl (by decide)
    have hC140 := Cx_join hC139 1 2 rfl rfl (by decide)
    have hC141 := Cx_join hC140 0 1 rfl rfl (by decide)
    have hC142 := Cx_join hC141 5 0 rfl rfl (by decide)
    have hC143 := Cx.pickM hC142 [0, 1] [5] (by decide) rfl rfl
    refine WLc rfl rfl rfl rfl rfl (by kernel_rfl) (snat_ct (p :: (blk (.slice AS xs.length cS) ++ (blk (.slice AN V.snats.length cN) ++ (blk (.slice AK V.sick.length cK) ++ (blk (.slice AL V.leases.length cL) ++ R))))) p (tickC (cntC V) c.v.time) (n + 1) c w87 hT133 (wf_tick hw ht0_ ht1_) (by omega) ) ?_
    rintro _ w145 ⟨F144, rfl, hF146, hT147, hsub148⟩
    have hC149 := hC143.callF 0 rfl hF146 hsub148 (cfgAt_lt hT147)
    refine ⟨_, rfl, ?_⟩
    refine WLs (c' := #[.int .i64 ((snatR (tickC (cntC V) c.v.time) ⟨c.v.dip, c.v.vip⟩ c.v.up).err), .int .u32 ((snatR (tickC (cntC V) c.v.time) ⟨c.v.dip, c.v.vip⟩ c.v.up).lease.vip), .int .i64 ((snatR (tickC (cntC V) c.v.time) ⟨c.v.dip, c.v.vip⟩ c.v.up).lease.first), .int .u32 ((snatR (tickC (cntC V) c.v.time) ⟨c.v.dip, c.v.vip⟩ c.v.up).lease.dip), .int .i64 ((snatR (tickC (cntC V) c.v.time) ⟨c.v.dip, c.v.vip⟩ c.v.up).lease.exp)]) hC149 1 47 g14 0 (.agg #[.int .i64 ((snatR (tickC (cntC V) c.v.time) ⟨c.v.dip, c.v.vip⟩ c.v.up).err), .int .u32 ((snatR (tickC (cntC V) c.v.time) ⟨c.v.dip, c.v.vip⟩ c.v.up).lease.vip), .int .i64 ((snatR (tickC (cntC V) c.v.time) ⟨c.v.dip, c.v.vip⟩ c.v.up).lease.first), .int .u32 ((snatR (tickC (cntC V) c.v.time) ⟨c.v.dip, c.v.vip⟩ c.v.up).lease.dip), .int .i64 ((snatR (tickC (cntC V) c.v.time) ⟨c.v.dip, c.v.vip⟩ c.v.up).lease.exp)]) (by kernel_rfl) rfl (by kernel_rfl) (fun w150 hF152 hC153 => ?_)
    have hf154 := cfgAt.fr hT147 hF152 (hC149.apartM 0 1 rfl rfl)
    refine WLd rfl (QXn (hK132 _ _ ?_))
    refine WC.ret ?_
    refine QXk ?_
    refine QXr ?_
    refine (hret' _ _ (.agg #[.int .i64 ((snatR (tickC (cntC V) c.v.time) ⟨c.v.dip, c.v.vip⟩ c.v.up).err), .int .u32 ((snatR (tickC (cntC V) c.v.time) ⟨c.v.dip, c.v.vip⟩ c.v.up).lease.vip), .int .i64 ((snatR (tickC (cntC V) c.v.time) ⟨c.v.dip, c.v.vip⟩ c.v.up).lease.first), .int .u32 ((snatR (tickC (cntC V) c.v.time) ⟨c.v.dip, c.v.vip⟩ c.v.up).lease.dip), .int .i64 ((snatR (tickC (cntC V) c.v.time) ⟨c.v.dip, c.v.vip⟩ c.v.up).lease.exp)]) (fun a ha => ?_) ?_).1
    ·
     exact res_run ha ((ResR.cell rfl (run_ld (hC153.get 1 rfl) rfl) ResR.nil)) rfl
    clear hN hret hret' hK132 hK129 hK102 hK100 hK98 hK76 hK49 hK39 hK37 hK26 hK2
    have hR_ : applyR V c.v = snatR (tickC (cntC V) c.v.time) ⟨c.v.dip, c.v.vip⟩ c.v.up := by unfold applyR; rw [if_neg (by rw [t51]; decide), if_neg (by simpa using t103b), if_pos (by simpa using t130b)]
    have hV_ : applyC V c.v = snatC (tickC (cntC V) c.v.time) ⟨c.v.dip, c.v.vip⟩ c.v.up := by unfold applyC; rw [if_neg (by rw [t51]; decide), if_neg (by simpa using t103b), if_pos (by simpa using t130b)]
    rw [hR_, hV_]
    exact ⟨F144, rfl, hC153.fr, hf154, fun x_ h_ => hC153.ownF _ (List.mem_of_getElem? (show _[0]? = some F144 from rfl)) x_ h_⟩
   ·
    have t130 : ¬ (c.v.kind = 2) := by simpa using t130b
    refine WCf rfl ?_
    refine WCs (fun K155 hK156 => ?_)
    refine WCg (WLr 2 [(46, .bool (c.v.kind == 3)), (47, .bool (c.v.kind == 3))] (fun _ => by kernel_rfl) (WLd rfl (QXn (hK156 _ _ ?_))))
    refine WCa 46 (c.v.kind == 3) rfl (fun t157b => ?_) (fun t157b => ?_)
    ·
     have t157 : c.v.kind = 3 := by simpa using t157b
     refine WCt rfl ?_
     refine WCs (fun K158 hK159 => ?_)
     refine WCg (WLr 1 [(48, .pointer (some ⟨p, 0, none⟩))] (fun _ => by kernel_rfl) ?_)
     refine WL.load 56 (.pointer (some ⟨g3, 0, none⟩)) (.agg #[.int .i64 c.v.node, .int .i64 c.v.boot, .int .i64 c.v.seq, .int .i64 c.v.time, .int .i64 c.v.kind, .int .u32 c.v.svip, .int .i64 c.v.sproto, .int .i64 c.v.sport, .slice c.a c.v.ends.length c.c, .int .u32 c.v.dip, .int .u32 c.v.vip, .bool c.v.up]) 49 (by kernel_rfl) (run_ld (hC90.get 1 rfl) rfl) ?_
     obtain ⟨ht0_, ht1_⟩ := goodC_time t51
     have hC163 := Cx.pickM hC90 [0] [0, 1, 2, 3, 4] (by decide) rfl rfl
     obtain ⟨hT160, hfr161, hsub162⟩ := cfg_close (V := (tickC (cntC V) c.v.time)) (xs := xs) hC163 ho92 ho93 ho94 ho95 hf96 hvals
     have hC164 := hC90.toF 0 rfl
     have hC165 := Cx_join hC164 3 4 rfl rfl (by decide)
     have hC166 := Cx_join hC165 2 3 rfl rfl (by decide)
     have hC167 := Cx_join hC166 1 2 rfl rfl (by decide)
     have hC168 := Cx_join hC167 0 1 rfl rfl (by decide)
     have hC169 := Cx_join hC168 5 0 rfl rfl (by decide)
     have hC170 := Cx.pickM hC169 [0, 1] [5] (by decide) rfl rfl
     refine WLc rfl rfl rfl rfl rfl (by kernel_rfl) (health_ct (p :: (blk (.slice AS xs.length cS) ++ (blk (.slice AN V.snats.length cN) ++ (blk (.slice AK V.sick.length cK) ++ (blk (.slice AL V.leases.length cL) ++ R))))) p (tickC (cntC V) c.v.time) (n + 1) c w87 hT160 (wf_tick hw ht0_ ht1_) (by omega) ) ?_
     rintro _ w172 ⟨F171, rfl, hF173, hT174, hsub175⟩
     have hC176 := hC170.callF 0 rfl hF173 hsub175 (cfgAt_lt hT174)
     refine ⟨_, rfl, ?_⟩
     refine WLs (c' := #[.int .i64 ((okR).err), .int .u32 ((okR).lease.vip), .int .i64 ((okR).lease.first), .int .u32 ((okR).lease.dip), .int .i64 ((okR).lease.exp)]) hC176 1 47 g14 0 (.agg #[.int .i64 ((okR).err), .int .u32 ((okR).lease.vip), .int .i64 ((okR).lease.first), .int .u32 ((okR).lease.dip), .int .i64 ((okR).lease.exp)]) (by kernel_rfl) rfl (by kernel_rfl) (fun w177 hF179 hC180 => ?_)
     have hf181 := cfgAt.fr hT174 hF179 (hC176.apartM 0 1 rfl rfl)
     refine WLd rfl (QXn (hK159 _ _ ?_))
     refine WC.ret ?_
     refine QXk ?_
     refine QXr ?_
     refine (hret' _ _ (.agg #[.int .i64 ((okR).err), .int .u32 ((okR).lease.vip), .int .i64 ((okR).lease.first), .int .u32 ((okR).lease.dip), .int .i64 ((okR).lease.exp)]) (fun a ha => ?_) ?_).1
     ·
      exact res_run ha ((ResR.cell rfl (run_ld (hC180.get 1 rfl) rfl) ResR.nil)) rfl
     clear hN hret hret' hK159 hK156 hK129 hK102 hK100 hK98 hK76 hK49 hK39 hK37 hK26 hK2
     have hR_ : applyR V c.v = okR := by unfold applyR; rw [if_neg (by rw [t51]; decide), if_neg (by simpa using t103b), if_neg (by simpa using t130b), if_pos (by simpa using t157b)]
     have hV_ : applyC V c.v = sickC (tickC (cntC V) c.v.time) c.v.dip c.v.up := by unfold applyC; rw [if_neg (by rw [t51]; decide), if_neg (by simpa using t103b), if_neg (by simpa using t130b), if_pos (by simpa using t157b)]
     rw [hR_, hV_]
     exact ⟨F171, rfl, hC180.fr, hf181, fun x_ h_ => hC180.ownF _ (List.mem_of_getElem? (show _[0]? = some F171 from rfl)) x_ h_⟩
    ·
     have t157 : ¬ (c.v.kind = 3) := by simpa using t157b
     refine WCf rfl (WC.skip ?_)
     refine QXb ?_
     refine QXn (hK98 _ _ ?_)
     refine WCs (fun K182 hK183 => ?_)
     refine WCg (WLr 2 [(52, .pointer (some ⟨g3, 9, none⟩)), (51, .pointer (some ⟨p, 0, none⟩))] (fun _ => by kernel_rfl) ?_)
     refine WL.load 41 (.pointer (some ⟨g3, 9, none⟩)) (.int .u32 c.v.dip) 53 (by kernel_rfl) (run_ld (hC90.get 1 rfl) rfl) ?_
     obtain ⟨ht0_, ht1_⟩ := goodC_time t51
     have hC187 := Cx.pickM hC90 [0] [0, 1, 2, 3, 4] (by decide) rfl rfl
     obtain ⟨hT184, hfr185, hsub186⟩ := cfg_close (V := (tickC (cntC V) c.v.time)) (xs := xs) hC187 ho92 ho93 ho94 ho95 hf96 hvals
     have hC188 := hC90.toF 0 rfl
     have hC189 := Cx_join hC188 3 4 rfl rfl (by decide)
     have hC190 := Cx_join hC189 2 3 rfl rfl (by decide)
     have hC191 := Cx_join hC190 1 2 rfl rfl (by decide)
     have hC192 := Cx_join hC191 0 1 rfl rfl (by decide)
     have hC193 := Cx_join hC192 5 0 rfl rfl (by decide)
     have hC194 := Cx.pickM hC193 [0, 1] [5] (by decide) rfl rfl
     refine WLc rfl rfl rfl rfl rfl (by kernel_rfl) (lease_ct (p :: (blk (.slice AS xs.length cS) ++ (blk (.slice AN V.snats.length cN) ++ (blk (.slice AK V.sick.length cK) ++ (blk (.slice AL V.leases.length cL) ++ R))))) p (tickC (cntC V) c.v.time) (n + 1) c.v.dip w87 hT184 (wf_tick hw ht0_ ht1_) (by omega) hc.wf.dip (zero_notin h0 (dbTab_size hg) (fun x_ h_ => by have q_ := hC194.ownF _ (List.mem_of_getElem? (show _[0]? = some _ from rfl)) x_ h_; exact q_)) (hg.frN hC194.fr (fun b_ off_ e_ => by cases e_; exact h0))) ?_
     rintro _ w196 ⟨F195, rfl, hF197, hT198, hsub199⟩
     have hC200 := hC194.callF 0 rfl hF197 hsub199 (cfgAt_lt hT198)
     refine ⟨_, rfl, ?_⟩
     refine WLs (c' := #[.int .i64 ((leaseR (tickC (cntC V) c.v.time) c.v.dip).err), .int .u32 ((leaseR (tickC (cntC V) c.v.time) c.v.dip).lease.vip), .int .i64 ((leaseR (tickC (cntC V) c.v.time) c.v.dip).lease.first), .int .u32 ((leaseR (tickC (cntC V) c.v.time) c.v.dip).lease.dip), .int .i64 ((leaseR (tickC (cntC V) c.v.time) c.v.dip).lease.exp)]) hC200 1 47 g14 0 (.agg #[.int .i64 ((leaseR (tickC (cntC V) c.v.time) c.v.dip).err), .int .u32 ((leaseR (tickC (cntC V) c.v.time) c.v.dip).lease.vip), .int .i64 ((leaseR (tickC (cntC V) c.v.time) c.v.dip).lease.first), .int .u32 ((leaseR (tickC (cntC V) c.v.time) c.v.dip).lease.dip), .int .i64 ((leaseR (tickC (cntC V) c.v.time) c.v.dip).lease.exp)]) (by kernel_rfl) rfl (by kernel_rfl) (fun w201 hF203 hC204 => ?_)
     have hf205 := cfgAt.fr hT198 hF203 (hC200.apartM 0 1 rfl rfl)
     refine WLd rfl (QXn (hK183 _ _ ?_))
     refine WC.ret ?_
     refine (hret' _ _ (.agg #[.int .i64 ((leaseR (tickC (cntC V) c.v.time) c.v.dip).err), .int .u32 ((leaseR (tickC (cntC V) c.v.time) c.v.dip).lease.vip), .int .i64 ((leaseR (tickC (cntC V) c.v.time) c.v.dip).lease.first), .int .u32 ((leaseR (tickC (cntC V) c.v.time) c.v.dip).lease.dip), .int .i64 ((leaseR (tickC (cntC V) c.v.time) c.v.dip).lease.exp)]) (fun a ha => ?_) ?_).1
     ·
      exact res_run ha ((ResR.cell rfl (run_ld (hC204.get 1 rfl) rfl) ResR.nil)) rfl
     clear hN hret hret' hK183 hK156 hK129 hK102 hK100 hK98 hK76 hK49 hK39 hK37 hK26 hK2
     have hR_ : applyR V c.v = leaseR (tickC (cntC V) c.v.time) c.v.dip := by unfold applyR; rw [if_neg (by rw [t51]; decide), if_neg (by simpa using t103b), if_neg (by simpa using t130b), if_neg (by simpa using t157b)]
     have hV_ : applyC V c.v = leaseC (tickC (cntC V) c.v.time) c.v.dip := by unfold applyC; rw [if_neg (by rw [t51]; decide), if_neg (by simpa using t103b), if_neg (by simpa using t130b), if_neg (by simpa using t157b)]
     rw [hR_, hV_]
     exact ⟨F195, rfl, hC204.fr, hf205, fun x_ h_ => hC204.ownF _ (List.mem_of_getElem? (show _[0]? = some F195 from rfl)) x_ h_⟩

end Go.Proofs.YtfligklljkcbfaaDoor
