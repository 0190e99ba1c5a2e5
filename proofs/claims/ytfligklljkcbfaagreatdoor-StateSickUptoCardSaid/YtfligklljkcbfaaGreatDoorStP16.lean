/- Contracts of functions of the program, each proved by a walk through its code; conditions stand in the statements. -/
import Derived.Test.YtfligklljkcbfaaGreatDoorStO16
namespace Go.Proofs.YtfligklljkcbfaaGreatDoor
set_option linter.unusedSimpArgs false
set_option linter.unusedVariables false
set_option linter.unusedSectionVars false
open Go Go.RowKit Go.Tw
set_option linter.unusedVariables false
set_option maxRecDepth 20000
theorem grE_zero {xs : List Lease} {vip dip now : Int} (h : grE xs vip dip now = 0) : checkL xs = true ∧ lgoodL ⟨vip, 1024, dip, 0⟩ = true ∧ 0 ≤ now ∧ now ≤ 1099511627776 ∧ (xs.filter (ofP dip now)).length < 4 ∧ (freeN xs vip now).isSome = true := by
  unfold grE at h
  split at h
  · rename_i h1
    split at h
    · cases h
    · rename_i h2
      split at h
      · rename_i h3
        simp only [Bool.and_eq_true] at h1
        have := goodTime_le h1.2
        exact ⟨h1.1.1, h1.1.2, this.1, this.2, Nat.lt_of_not_le h2, h3⟩
      · cases h
  · cases h
theorem freeN_lt {xs : List Lease} {vip now : Int} {n : Nat} (h : freeN xs vip now = some n) : n < 8064 := by
  unfold freeN at h
  rw [List.find?_range_eq_some] at h
  exact List.mem_range.1 h.2.1
theorem freeF_le (xs : List Lease) (vip now : Int) : 0 ≤ freeF xs vip now ∧ freeF xs vip now ≤ 65528 := by
  unfold freeF
  cases h : freeN xs vip now with
  | none => exact ⟨by decide, by decide⟩
  | some n => have := freeN_lt h; show (0 : Int) ≤ 1024 + 8 * (n : Int) ∧ (1024 + 8 * (n : Int)) ≤ 65528; omega
theorem mem_insL {xs : List Lease} {l x : Lease} (h : x ∈ insL xs l) : x ∈ xs ∨ x = l := by
  simp only [insL, List.mem_append, List.mem_cons, List.mem_filter] at h
  rcases h with h | h | h
  · exact .inl h.1
  · exact .inr h
  · exact .inl h.1
theorem grX_ok {xs : List Lease} {vip dip now : Int} (hwf : ∀ l ∈ xs, okL l) (hvip : 0 ≤ vip ∧ vip ≤ 4294967295) (hdip : 0 ≤ dip ∧ dip ≤ 4294967295) : ∀ l ∈ grX xs vip dip now, okL l := by
  intro l hl
  unfold grX at hl
  split at hl
  · rename_i h
    obtain ⟨_, _, h0, h1, _, _⟩ := grE_zero h
    rcases mem_insL hl with h2 | rfl
    · exact hwf l h2
    · unfold grL
      rw [if_pos h]
      have := freeF_le xs vip now
      simp only [okL]; omega
  · simp at hl
theorem part2 (p : Lease → Bool) (l : Lease) : ∀ xs : List Lease, ((xs.filter (ltL · l)).filter p).length + ((xs.filter (ltL l ·)).filter p).length ≤ (xs.filter p).length
  | [] => by simp
  | x :: r => by
    have ih := part2 p l r
    cases h1 : ltL x l
    · rw [List.filter_cons_of_neg (p := (ltL · l)) (by simp [h1])]
      cases h2 : ltL l x
      · rw [List.filter_cons_of_neg (p := (ltL l ·)) (by simp [h2])]
        cases h3 : p x
        · rw [List.filter_cons_of_neg (p := p) (l := r) (by simp [h3])]; exact ih
        · rw [List.filter_cons_of_pos (p := p) (l := r) h3, List.length_cons]; omega
      · rw [List.filter_cons_of_pos (p := (ltL l ·)) h2]
        cases h3 : p x
        · rw [List.filter_cons_of_neg (p := p) (by simp [h3]), List.filter_cons_of_neg (p := p) (by simp [h3])]; exact ih
        · rw [List.filter_cons_of_pos (p := p) h3, List.filter_cons_of_pos (p := p) h3, List.length_cons, List.length_cons]; omega
    · rw [List.filter_cons_of_pos (p := (ltL · l)) h1, List.filter_cons_of_neg (p := (ltL l ·)) (by simp [ltL_asym h1])]
      cases h3 : p x
      · rw [List.filter_cons_of_neg (p := p) (by simp [h3]), List.filter_cons_of_neg (p := p) (by simp [h3])]; exact ih
      · rw [List.filter_cons_of_pos (p := p) h3, List.filter_cons_of_pos (p := p) h3, List.length_cons, List.length_cons]; omega
theorem filter_ins (p : Lease → Bool) (xs : List Lease) (l : Lease) : ((insL xs l).filter p).length = ((xs.filter (ltL · l)).filter p).length + ((xs.filter (ltL l ·)).filter p).length + (if p l then 1 else 0) := by
  rw [insL, List.filter_append, List.length_append]
  cases h : p l
  · rw [List.filter_cons_of_neg (by simp [h])]; simp
  · rw [List.filter_cons_of_pos h, List.length_cons]; simp; omega
theorem len_insL1 (xs : List Lease) (l : Lease) : (insL xs l).length ≤ xs.length + 1 := by
  have h := filter_ins (fun _ => true) xs l
  have h2 := part2 (fun _ => true) l xs
  have e : ∀ l : List Lease, l.filter (fun _ => true) = l := fun l => List.filter_eq_self.2 (fun _ _ => rfl)
  simp only [e, if_true] at h h2
  omega
structure Alone (L G : List Lease) (now : Int) : Prop where
  chk : checkL L = true
  has : ∀ x ∈ G, now ≤ x.exp → ∃ y ∈ L, y.vip = x.vip ∧ y.first = x.first ∧ y.dip = x.dip ∧ x.exp ≤ y.exp
  cnt : ∀ dip, (L.filter (ofP dip now)).length ≤ 4
  late : ∀ x ∈ G, x.exp ≤ now + 64
  ok : ∀ x ∈ G, okL x
  okl : ∀ x ∈ L, okL x
theorem grX_len1 (L : List Lease) (vip dip now : Int) : (grX L vip dip now).length ≤ L.length + 1 := by
  unfold grX; split
  · exact len_insL1 _ _
  · simp
theorem rnX_len1 (L : List Lease) (vip first dip now : Int) : (rnX L vip first dip now).length ≤ L.length + 1 := by
  unfold rnX; split
  · exact len_insL1 _ _
  · simp
theorem goodC_time {c : CmdV} (h : goodC c = true) : 0 ≤ c.time ∧ c.time ≤ 1099511627776 := by
  unfold goodC at h
  simp only [Bool.and_eq_true] at h
  exact of_decide_eq_true h.2.2.2.1
theorem rnX_ok {xs : List Lease} {vip first dip now : Int} (hwf : ∀ l ∈ xs, okL l) (hvip : 0 ≤ vip ∧ vip ≤ 4294967295) (hdip : 0 ≤ dip ∧ dip ≤ 4294967295) : ∀ l ∈ rnX xs vip first dip now, okL l := by
  intro l hl
  unfold rnX at hl
  split at hl
  · rename_i h
    rcases mem_insL hl with h2 | rfl
    · exact hwf l h2
    · unfold rnL
      rw [if_pos h]
      unfold rnE at h
      split at h
      · rename_i h3
        simp only [Bool.and_eq_true] at h3
        have ht := goodTime_le h3.2
        split at h
        · rename_i h4
          obtain ⟨z, hz, hz2⟩ := List.any_eq_true.1 h4
          simp only [rnP, Bool.and_eq_true, decide_eq_true_eq] at hz2
          have := hwf z hz
          simp only [okL] at this ⊢
          omega
        · cases h
      · cases h
  · cases hl
theorem wf_tick {C : CfgV} {n : Nat} (h : wfCfg C n) {t : Int} (h0 : 0 ≤ t) (h1 : t ≤ 1099511627776) : wfCfg (tickC (cntC C) t) (n + 1) :=
  ⟨h.ssort, h.nsort, h.ksort, h.lok, h.nok, Nat.le_succ_of_le h.sn, Nat.le_succ_of_le h.nn, Nat.le_succ_of_le h.kn, Nat.le_succ_of_le h.ln,
    (by have := h.ep0; show 0 ≤ C.epoch + 1; omega), (by have := h.ep1; show C.epoch + 1 ≤ ((n + 1 : Nat) : Int); omega), (by have := h.now0; show 0 ≤ max C.now t; omega), (by have := h.now1; show max C.now t ≤ _; omega)⟩
theorem wf_cnt {C : CfgV} {n : Nat} (h : wfCfg C n) : wfCfg (cntC C) (n + 1) :=
  ⟨h.ssort, h.nsort, h.ksort, h.lok, h.nok, Nat.le_succ_of_le h.sn, Nat.le_succ_of_le h.nn, Nat.le_succ_of_le h.kn, Nat.le_succ_of_le h.ln,
    (by have := h.ep0; show 0 ≤ C.epoch + 1; omega), (by have := h.ep1; show C.epoch + 1 ≤ ((n + 1 : Nat) : Int); omega), h.now0, h.now1⟩
theorem leaL_len (C : CfgV) : (leaL C).length ≤ C.leases.length := List.length_filter_le _ _
theorem lendX_len (C : CfgV) (vip dip : Int) : (lendX C vip dip).length ≤ C.leases.length + 1 := by
  have := leaL_len C
  unfold lendX
  split
  · exact Nat.le_trans (grX_len1 _ _ _ _) (by omega)
  · exact Nat.le_trans (rnX_len1 _ _ _ _ _) (by omega)
theorem lendX_ok {C : CfgV} (h : ∀ l ∈ C.leases, okL l) {vip dip : Int} (hvip : isU32 vip) (hdip : isU32 dip) : ∀ l ∈ lendX C vip dip, okL l := by
  unfold lendX
  split
  · exact grX_ok (fun l hl => h l (in_leaL hl).1) hvip hdip
  · exact rnX_ok (fun l hl => h l (in_leaL hl).1) hvip hdip
theorem wf_apply {C : CfgV} {n : Nat} (h : wfCfg C n) {c : CmdV} (hd : isU32 c.dip) (hv : isU32 c.vip) : wfCfg (applyC C c) (n + 1) := by
  unfold applyC
  split
  · exact wf_cnt h
  · rename_i hg
    obtain ⟨t0, t1⟩ := goodC_time (by simpa using hg : goodC c = true)
    have k := wf_tick h t0 t1
    have e1 : (tickC (cntC C) c.time).svcs.length ≤ n := h.sn
    have e2 : (tickC (cntC C) c.time).snats.length ≤ n := h.nn
    have e3 : (tickC (cntC C) c.time).sick.length ≤ n := h.kn
    have e4 : (tickC (cntC C) c.time).leases.length ≤ n := h.ln
    generalize tickC (cntC C) c.time = D at k e1 e2 e3 e4
    split
    · unfold svcC
      split
      · exact k
      · exact { k with ssort := put_sort k.ssort, sn := Nat.le_trans (put_len k.ssort) (by omega) }
    · split
      · refine { k with nsort := put_sort k.nsort, nn := Nat.le_trans (put_len k.nsort) (by omega), nok := fun x hx => ?_ }
        rcases (put_mem k.nsort).1 hx with ⟨h1, _⟩ | ⟨_, rfl⟩
        · exact k.nok x h1
        · exact ⟨hd, hv⟩
      · split
        · exact { k with ksort := put_sort k.ksort, kn := Nat.le_trans (put_len k.ksort) (by omega) }
        · unfold leaseC
          split
          · exact k
          · refine { k with lok := ?_, ln := ?_ }
            · dsimp only
              split
              · exact lendX_ok k.lok (outV_u32 k.nok _) hd
              · exact fun l hl => k.lok l (in_leaL hl).1
            · dsimp only
              split
              · exact Nat.le_trans (lendX_len _ _ _) (by omega)
              · exact Nat.le_trans (leaL_len _) (by omega)
theorem wf_zero : wfCfg zeroC 0 :=
  ⟨List.Pairwise.nil, List.Pairwise.nil, List.Pairwise.nil, fun _ h => (nomatch h), fun _ h => (nomatch h), Nat.le_refl _, Nat.le_refl _, Nat.le_refl _, Nat.le_refl _, by decide, by decide, by decide, by decide⟩
theorem fold_step {L : List Cmd} {i : Nat} {m : Cmd} (h : L[i]? = some m) : foldC (vals (L.take (i + 1))) = applyC (foldC (vals (L.take i))) m.v := by
  obtain ⟨hi, rfl⟩ := List.getElem?_eq_some_iff.1 h
  rw [List.take_succ_eq_append_getElem hi, vals_snoc, foldC_snoc]
theorem res_step {L : List Cmd} {i : Nat} {m : Cmd} (h : L[i]? = some m) : resC (vals (L.take (i + 1))) = resC (vals (L.take i)) ++ [applyR (foldC (vals (L.take i))) m.v] := by
  obtain ⟨hi, rfl⟩ := List.getElem?_eq_some_iff.1 h
  rw [List.take_succ_eq_append_getElem hi, vals_snoc, resC_snoc]
def wfs (cs : List CmdV) : Prop := ∀ c ∈ cs, isU32 c.dip ∧ isU32 c.vip
theorem wf_fold {cs : List CmdV} (h : wfs cs) : wfCfg (foldC cs) cs.length := by
  suffices ∀ (cs : List CmdV) (C : CfgV) (n : Nat), wfCfg C n → wfs cs → wfCfg (foldFrom C cs) (n + cs.length) by
    have := this cs zeroC 0 wf_zero h; rwa [Nat.zero_add] at this
  intro cs
  induction cs with
  | nil => intro C n h _; exact h
  | cons c r ih =>
    intro C n hC hw
    have := ih (applyC C c) (n + 1) (wf_apply hC (hw c List.mem_cons_self).1 (hw c List.mem_cons_self).2) (fun x hx => hw x (List.mem_cons_of_mem _ hx))
    rw [List.length_cons, show n + (r.length + 1) = n + 1 + r.length from by omega]; exact this
theorem svc_of {w : World} {m : Cmd} (h : cmdAt w m) : svcAt w ⟨svcOf m.v, m.a, m.c⟩ := ⟨h.rd, h.wf.ends, h.wf.svip, h.wf.sproto, h.wf.sport, h.lim, h.cap⟩
theorem Cx_new5 {w : World} {p : Nat} {o : Obj} (hp : w.heap[p]? = some o) : Cx w [p] w [(p, o)] [[], [], [], [], []] :=
  ⟨.refl _ _, by simpa using hp, by simp, by simp, by simp, by simp, by simp, by simp⟩
theorem cfg_new {w : World} {p : Nat} (hp : w.heap[p]? = some (.cells #[.int .i64 0, .int .i64 0, .slice none 0 0, .slice none 0 0, .slice none 0 0, .slice none 0 0] 72 (0, 0))) : cfgAt w [p] p zeroC :=
  ⟨none, 0, [], none, 0, none, 0, none, 0, [], Cx_new5 hp, rfl, own_nil _ _ _ _, own_nil _ _ _ _, own_nil _ _ _ _, own_nil _ _ _ _, svcsIn.nil _ _, rfl⟩
theorem cmd_frE {w w' : World} {m : Cmd} {G : List Nat} (h : cmdAt w m) (hf : Fr w w' G) (hd : 0 < m.v.ends.length → ∀ b off, m.a = some ⟨b, off, none⟩ → b ∉ G) : cmdAt w' m := by
  refine ⟨⟨fun i x hx => ?_⟩, h.wf, h.lim, h.cap⟩
  obtain ⟨b, off, hA, hc⟩ := h.rd.at_ i x hx
  exact ⟨b, off, hA, fun j u hu => hf.cell (hc j u hu) (hd (by have := (List.getElem?_eq_some_iff.1 hx).1; omega) b off hA)⟩
theorem cmd_size {w : World} {m : Cmd} (h : cmdAt w m) (hne : 0 < m.v.ends.length) {b off : Nat} (hA : m.a = some ⟨b, off, none⟩) : b < w.heap.size := by
  have := h.rd
  rw [hA] at this
  exact rd_size this (fun _ => Nat.succ_pos _) hne
set_option maxHeartbeats 2000000 in
theorem apply_ct (F : List Nat) (p : Nat) (V : CfgV) (n : Nat) (c : Cmd) (w : World) (h : cfgAt w F p V) (hw : wfCfg V n) (hn : n + 1 ≤ 100000000000) (hc : cmdAt w c) (hcF : 0 < c.v.ends.length → ∀ b off, c.a = some ⟨b, off, none⟩ → b ∉ F) (h0 : 0 ∉ F) (hg : Rd w 1 (encI .u8) (some ⟨0, 0, none⟩) dbTab) : Calls Tryz.prog 31 #[.pointer (some ⟨p, 0, none⟩), .agg #[.int .i64 c.v.node, .int .i64 c.v.boot, .int .i64 c.v.seq, .int .i64 c.v.time, .int .i64 c.v.kind, .int .u32 c.v.svip, .int .i64 c.v.sproto, .int .i64 c.v.sport, .slice c.a c.v.ends.length c.c, .int .u32 c.v.dip, .int .u32 c.v.vip, .bool c.v.up]] w fun e w' => ∃ F2, e = .returned (.agg #[.int .i64 ((applyR V c.v).err), .int .u32 ((applyR V c.v).lease.vip), .int .i64 ((applyR V c.v).lease.first), .int .u32 ((applyR V c.v).lease.dip), .int .i64 ((applyR V c.v).lease.exp)]) ∧ Fr w w' F ∧ cfgAt w' F2 p (applyC V c.v) ∧ ∀ x ∈ F2, x ∈ F ∨ w.heap.size ≤ x := by
 refine enterD (n := 55) Tryz.func31 rfl rfl (Nat.le_of_ble_eq_true rfl) ?_
 intro Q0 hN hret hret'
 obtain ⟨AS, cS, xs, AN, cN, AK, cK, AL, cL, R, hC, hF_, hrS, hrN, hrK, hrL, hin, hvals⟩ := h
 have hssx_ : sortK kS xs := sortK_map (by rw [hvals]; exact hw.ssort)
 have hslx_ : V.svcs.length = xs.length := by rw [← hvals, List.length_map]
 have hws1_ := hw.sn
 have hws2_ := hw.nn
 have hws3_ := hw.kn
 have hws4_ := hw.ln
 have hws5_ := hw.ep0
 have hws6_ := hw.ep1
 have hws7_ := hw.now0
 have hws8_ := hw.now1
 refine WCs (fun K1 hK2 => ?_)
 refine WCg ?_
 refine WL.newM hC (fun b => .pointer (some ⟨b, 0, none⟩)) (.cells #[.int .i64 c.v.node, .int .i64 c.v.boot, .int .i64 c.v.seq, .int .i64 c.v.time, .int .i64 c.v.kind, .int .u32 c.v.svip, .int .i64 c.v.sproto, .int .i64 c.v.sport, .slice c.a c.v.ends.length c.c, .int .u32 c.v.dip, .int .u32 c.v.vip, .bool c.v.up] 45) 3 (fun _ => by kernel_rfl) (fun g3 w4 hb7 hF5 hC6 => ?_)
 have ho8 := own_fr hrS hF5 (by simp)
 have ho9 := own_fr hrN hF5 (by simp)
 have b6 := own_fr hrK hF5 (by simp)
 have b7 := own_fr hrL hF5 (by simp)
 have b8 := svcsIn.fr hin hF5 (by simp)
 have b9 := (Fr.refl w []).trans hF5 (by simp)
 refine WL.newM hC6 (fun b => .pointer (some ⟨b, 0, none⟩)) (.cells #[.int .i64 0, .int .u32 0, .int .i64 0, .int .u32 0, .int .i64 0] 52) 4 (fun _ => by kernel_rfl) (fun a6 c9 cP al aj => ?_)
 have ca := own_fr ho8 al (by simp)
 have cb := own_fr ho9 al (by simp)
 have cc := own_fr b6 al (by simp)
 have cd := own_fr b7 al (by simp)
 have ce := svcsIn.fr b8 al (by simp)
 have cQ := b9.trans al (by simp)
 refine WLd rfl (QXn (hK2 _ _ ?_))
 refine WCs (fun da am => ?_)
 refine WCg (WLq 4 [(9, .pointer (some ⟨p, 0, none⟩)), (8, .pointer (some ⟨p, 0, none⟩)), (7, .pointer (some ⟨p, 0, none⟩)), (6, .pointer (some ⟨p, 0, none⟩))] ?_)
 refine WLo 3 (.pointer (some ⟨p, 0, none⟩)) (.int .i64 V.epoch) 10 (run_ld (aj.get 0 rfl) rfl) ?_
 refine WLq 1 [(11, .int .i64 (IntKind.i64.wrap (V.epoch + 1)))] ?_
 refine WLt (show (.int .i64 (IntKind.i64.wrap (V.epoch + 1)) : Value) = .int .i64 (V.epoch + 1) from by rw [wrap_in_i64 (V.epoch + 1) (by omega) (by omega)]) ?_
 refine WLq 3 [(14, .pointer (some ⟨p, 0, none⟩)), (13, .pointer (some ⟨p, 0, none⟩)), (12, .pointer (some ⟨p, 0, none⟩))] ?_
 refine WLs (c' := #[.int .i64 (V.epoch + 1), .int .i64 V.now, .slice AS xs.length cS, .slice AN V.snats.length cN, .slice AK V.sick.length cK, .slice AL V.leases.length cL]) aj 0 3 p 0 (.int .i64 (V.epoch + 1)) (by kernel_rfl) rfl (by kernel_rfl) (fun cR aw a4 => ?_)
 have cf := own_fr ca aw (aj.apartM 0 0 rfl rfl)
 have cg := own_fr cb aw (aj.apartM 1 0 rfl rfl)
 have ch := own_fr cc aw (aj.apartM 2 0 rfl rfl)
 have ci := own_fr cd aw (aj.apartM 3 0 rfl rfl)
 have cj := svcsIn.fr ce aw (aj.apartM 4 0 rfl rfl)
 refine WLd rfl (QXn (am _ _ ?_))
 refine WCs (fun db an => ?_)
 refine WCs (fun dc ao => ?_)
 refine WCg ?_
 refine WLo 45 (.pointer (some ⟨g3, 0, none⟩)) (.agg #[.int .i64 c.v.node, .int .i64 c.v.boot, .int .i64 c.v.seq, .int .i64 c.v.time, .int .i64 c.v.kind, .int .u32 c.v.svip, .int .i64 c.v.sproto, .int .i64 c.v.sport, .slice c.a c.v.ends.length c.c, .int .u32 c.v.dip, .int .u32 c.v.vip, .bool c.v.up]) 15 (run_ld (a4.get 1 rfl) rfl) ?_
 refine WLc rfl rfl rfl rfl rfl (by kernel_rfl) (Check_ct c cR (cmd_frE hc a4.fr hcF)) ?_
 rintro _ cT ⟨rfl, ap⟩
 refine ⟨_, rfl, ?_⟩
 have a7 := a4.call ap
 have a8 := own_fr cf ap (by simp)
 have a9 := own_fr cg ap (by simp)
 have ba := own_fr ch ap (by simp)
 have bb := own_fr ci ap (by simp)
 have bc := svcsIn.fr cj ap (by simp)
 refine WLq 1 [(5, errV 118 (if goodC c.v then 0 else 9))] (WLd rfl (QXn (ao _ _ ?_)))
 refine WCs (fun dd aq => ?_)
 refine WCg (WLq 1 [(17, errV 118 (if goodC c.v then 0 else 9))] ?_)
 have ck : ∀ w_, Sem.run Tryz.prog (do eqGuard .neq 97 (Operand.tmp 17) (Operand.const (.nilIface)) (errV 118 (if goodC c.v then 0 else 9)) (.nilIface); binOp .neq 97 (errV 118 (if goodC c.v then 0 else 9)) (.nilIface)) w_ = .ok (.bool (!(goodC c.v))) w_ := fun w_ => (err_neq _ (if goodC c.v then 0 else 9) (goodC c.v) (by cases goodC c.v <;> rfl) _)
 refine WL.sem (do eqGuard .neq 97 (Operand.tmp 17) (Operand.const (.nilIface)) (errV 118 (if goodC c.v then 0 else 9)) (.nilIface); binOp .neq 97 (errV 118 (if goodC c.v then 0 else 9)) (.nilIface)) 18 (.bool (!(goodC c.v))) (by kernel_rfl) (ck _) ?_
 refine WLd rfl (QXn (aq _ _ ?_))
 refine WCa 18 (!(goodC c.v)) rfl (fun ax => ?_) (fun ax => ?_)
 ·
  have ai : (goodC c.v) = false := by first | (simpa only [Bool.not_eq_true', Bool.not_eq_false'] using ax) | simpa using ax
  refine WCt rfl ?_
  refine WCs (fun de bd => ?_)
  refine WCg (WLq 1 [(19, errV 118 (if goodC c.v then 0 else 9))] ?_)
  refine WLc rfl rfl rfl rfl rfl (by kernel_rfl) (result_ct (if goodC c.v then 0 else 9) cT) ?_
  rintro _ df ⟨rfl, ar⟩
  refine ⟨_, rfl, ?_⟩
  have au := a7.call ar
  have cl := own_fr a8 ar (by simp)
  have cm := own_fr a9 ar (by simp)
  have cn := own_fr ba ar (by simp)
  have co := own_fr bb ar (by simp)
  have cp := svcsIn.fr bc ar (by simp)
  refine WLs (c' := #[.int .i64 (if goodC c.v then 0 else 9), .int .u32 0, .int .i64 0, .int .u32 0, .int .i64 0]) au 2 52 a6 0 (.agg #[.int .i64 (if goodC c.v then 0 else 9), .int .u32 0, .int .i64 0, .int .u32 0, .int .i64 0]) (by kernel_rfl) rfl (by kernel_rfl) (fun dg ay be => ?_)
  have cq := own_fr cl ay (au.apartM 0 2 rfl rfl)
  have cr := own_fr cm ay (au.apartM 1 2 rfl rfl)
  have cs := own_fr cn ay (au.apartM 2 2 rfl rfl)
  have ct := own_fr co ay (au.apartM 3 2 rfl rfl)
  have cu := svcsIn.fr cp ay (au.apartM 4 2 rfl rfl)
  refine WLd rfl (QXn (bd _ _ ?_))
  refine WC.ret ?_
  refine QXr ?_
  refine (hret' _ _ (.agg #[.int .i64 (if goodC c.v then 0 else 9), .int .u32 0, .int .i64 0, .int .u32 0, .int .i64 0]) (fun a ha => ?_) ?_).1
  ·
   exact res_run ha ((ResR.cell rfl (run_ld (be.get 2 rfl) rfl) ResR.nil)) rfl
  clear hN hret hret' bd aq ao an am hK2
  have cv := Cx.pickM be [0] [0, 1, 2, 3, 4] (by decide) rfl rfl
  obtain ⟨cw, bf, a5⟩ := cfg_close (V := cntC V) (xs := xs) cv cq cr cs ct cu hvals
  have hR_ : applyR V c.v = errR 9 := by unfold applyR; rw [if_pos ai]
  have hV_ : applyC V c.v = cntC V := by unfold applyC; rw [if_pos ai]
  rw [hR_, hV_]
  exact ⟨_, by rw [ai]; rfl, bf, cw, a5⟩
 ·
  have ai : (goodC c.v) = true := by first | (simpa only [Bool.not_eq_true', Bool.not_eq_false'] using ax) | simpa using ax
  refine WCf rfl (WC.skip (QXn (an _ _ ?_)))
  refine WCs (fun dh az => ?_)
  refine WC.drawC a7 [p] (by kernel_rfl) (fun di aA af ab => ?_)
  have cx := own_fr a8 aA (by simp)
  have cy := own_fr a9 aA (by simp)
  have cz := own_fr ba aA (by simp)
  have cA := own_fr bb aA (by simp)
  have cB := svcsIn.fr bc aA (by simp)
  refine WDq (NPt hN) 0 21 (.pointer (some ⟨p, 0, none⟩)) ab ?_
  refine WDq (NPt hN) 1 22 (.pointer (some ⟨p, 0, none⟩)) ab ?_
  refine WDq (NPt hN) 2 23 (.pointer (some ⟨p, 0, none⟩)) ab ?_
  refine WDq (NPt hN) 3 24 (.pointer (some ⟨p, 0, none⟩)) ab ?_
  refine WDq (NPt hN) 4 25 (.pointer (some ⟨p, 1, none⟩)) ab ?_
  refine WDq (NPt hN) 6 27 (.pointer (some ⟨g3, 3, none⟩)) ab ?_
  refine WDm (NPt hN) 7 3 (.pointer (some ⟨g3, 3, none⟩)) (.int .i64 c.v.time) 28 (fun _ hS_ => run_ld (Fr.has hS_ (af.get 1 rfl) (by simpa using af.ne 1 0 rfl rfl (by decide))) rfl) ab ?_
  refine WD.sem 5 (Instr.loadAt 3 (.pointer (some ⟨p, 1, none⟩))) 26 (.int .i64 V.now) (by kernel_rfl) (by kernel_rfl) (run_ld (af.get 0 rfl) rfl) ab ?_
  have cC : ∀ w_, Sem.run Tryz.prog (Builtin.max_ #[3, 3] 3 #[.int .i64 V.now, .int .i64 c.v.time]) w_ = .ok (.int .i64 (max V.now c.v.time)) w_ := fun w_ => run_maxI
  refine WD.semP (NPt hN) 8 (Builtin.max_ #[3, 3] 3 #[.int .i64 V.now, .int .i64 c.v.time]) 29 (.int .i64 (max V.now c.v.time)) (by kernel_rfl) (by kernel_rfl) (fun _ _ => cC _) ab ?_
  refine WDq (NPt hN) 9 30 (.pointer (some ⟨p, 0, none⟩)) ab ?_
  refine WDq (NPt hN) 10 31 (.pointer (some ⟨p, 0, none⟩)) ab ?_
  refine WDq (NPt hN) 11 32 (.pointer (some ⟨p, 1, none⟩)) ab ?_
  obtain ⟨b1, cD, av, ad⟩ := sto_run (c' := #[.int .i64 (V.epoch + 1), .int .i64 (max V.now c.v.time), .slice AS xs.length cS, .slice AN V.snats.length cN, .slice AK V.sick.length cK, .slice AL V.leases.length cL]) Tryz.prog af 0 3 p 1 (.int .i64 (max V.now c.v.time)) rfl (by kernel_rfl)
  have cE := ab.trans av (by first | (simp; done) | (simp [*]; done) | (have q_ := ab.size; simp; omega))
  refine WD.semU 12 (Instr.storeAt 3 (.pointer (some ⟨p, 1, none⟩)) (.int .i64 (max V.now c.v.time))) (by kernel_rfl) (by kernel_rfl) cD cE ?_
  have aI := own_fr cx av (af.apartM 0 0 rfl rfl)
  have aJ := own_fr cy av (af.apartM 1 0 rfl rfl)
  have aK := own_fr cz av (af.apartM 2 0 rfl rfl)
  have aL := own_fr cA av (af.apartM 3 0 rfl rfl)
  have aM := svcsIn.fr cB av (af.apartM 4 0 rfl rfl)
  refine WD.done (by kernel_rfl) ?_
  refine QXn (az _ _ ?_)
  refine WCs (fun dj aB => ?_)
  refine WCs (fun dk ag => ?_)
  refine WCg (WLq 1 [(33, .pointer (some ⟨g3, 4, none⟩))] ?_)
  refine WLo 3 (.pointer (some ⟨g3, 4, none⟩)) (.int .i64 c.v.kind) 34 (run_ld (ad.get 1 rfl) rfl) ?_
  refine WLd rfl (QXn (ag _ _ ?_))
  refine WC.block ?_
  refine WCs (fun cU ah => ?_)
  refine WCg (WLq 2 [(35, .bool (c.v.kind == 1)), (36, .bool (c.v.kind == 1))] (WLd rfl (QXn (ah _ _ ?_))))
  refine WCa 35 (c.v.kind == 1) rfl (fun aa => ?_) (fun aa => ?_)
  ·
   have cF : c.v.kind = 1 := by simpa using aa
   refine WCt rfl ?_
   refine WCs (fun cV aR => ?_)
   refine WCg (WLq 2 [(38, .pointer (some ⟨g3, 5, none⟩)), (37, .pointer (some ⟨p, 0, none⟩))] ?_)
   refine WLo 43 (.pointer (some ⟨g3, 5, none⟩)) (.agg #[.int .u32 c.v.svip, .int .i64 c.v.sproto, .int .i64 c.v.sport, .slice c.a c.v.ends.length c.c]) 39 (run_ld (ad.get 1 rfl) rfl) ?_
   obtain ⟨ht0_, ht1_⟩ := goodC_time ai
   have bg := Cx.pickM ad [0] [0, 1, 2, 3, 4] (by decide) rfl rfl
   obtain ⟨bh, cG, b2⟩ := cfg_close (V := (tickC (cntC V) c.v.time)) (xs := xs) bg aI aJ aK aL aM hvals
   have bi := ad.toF 0 rfl
   have bj := Cx_join bi 3 4 rfl rfl (by decide)
   have bk := Cx_join bj 2 3 rfl rfl (by decide)
   have bl := Cx_join bk 1 2 rfl rfl (by decide)
   have bm := Cx_join bl 0 1 rfl rfl (by decide)
   have bn := Cx_join bm 5 0 rfl rfl (by decide)
   have aS := Cx.pickM bn [0, 1] [5] (by decide) rfl rfl
   refine WLc rfl rfl rfl rfl rfl (by kernel_rfl) (service_ct (p :: (blk (.slice AS xs.length cS) ++ (blk (.slice AN V.snats.length cN) ++ (blk (.slice AK V.sick.length cK) ++ (blk (.slice AL V.leases.length cL) ++ R))))) p (tickC (cntC V) c.v.time) (n + 1) (⟨svcOf c.v, c.a, c.c⟩ : Svc) b1 bh (wf_tick hw ht0_ ht1_) (by omega) (svc_of (cmd_frE hc aS.fr hcF))) ?_
   rintro _ cW ⟨F117, rfl, bo, aT, aN⟩
   have aU := aS.callF 0 rfl bo aN (cfgAt_lt aT)
   refine ⟨_, rfl, ?_⟩
   refine WLs (c' := #[.int .i64 ((svcR (tickC (cntC V) c.v.time) (svcOf c.v)).err), .int .u32 ((svcR (tickC (cntC V) c.v.time) (svcOf c.v)).lease.vip), .int .i64 ((svcR (tickC (cntC V) c.v.time) (svcOf c.v)).lease.first), .int .u32 ((svcR (tickC (cntC V) c.v.time) (svcOf c.v)).lease.dip), .int .i64 ((svcR (tickC (cntC V) c.v.time) (svcOf c.v)).lease.exp)]) aU 1 52 a6 0 (.agg #[.int .i64 ((svcR (tickC (cntC V) c.v.time) (svcOf c.v)).err), .int .u32 ((svcR (tickC (cntC V) c.v.time) (svcOf c.v)).lease.vip), .int .i64 ((svcR (tickC (cntC V) c.v.time) (svcOf c.v)).lease.first), .int .u32 ((svcR (tickC (cntC V) c.v.time) (svcOf c.v)).lease.dip), .int .i64 ((svcR (tickC (cntC V) c.v.time) (svcOf c.v)).lease.exp)]) (by kernel_rfl) rfl (by kernel_rfl) (fun cX bp aC => ?_)
   have bq := cfgAt.fr aT bp (aU.apartM 0 1 rfl rfl)
   refine WLd rfl (QXn (aR _ _ ?_))
   refine WC.ret ?_
   refine QXk ?_
   refine QXr ?_
   refine (hret' _ _ (.agg #[.int .i64 ((svcR (tickC (cntC V) c.v.time) (svcOf c.v)).err), .int .u32 ((svcR (tickC (cntC V) c.v.time) (svcOf c.v)).lease.vip), .int .i64 ((svcR (tickC (cntC V) c.v.time) (svcOf c.v)).lease.first), .int .u32 ((svcR (tickC (cntC V) c.v.time) (svcOf c.v)).lease.dip), .int .i64 ((svcR (tickC (cntC V) c.v.time) (svcOf c.v)).lease.exp)]) (fun a ha => ?_) ?_).1
   ·
    exact res_run ha ((ResR.cell rfl (run_ld (aC.get 1 rfl) rfl) ResR.nil)) rfl
   clear hN hret hret' aR ah ag aB az aq ao an am hK2
   have hR_ : applyR V c.v = svcR (tickC (cntC V) c.v.time) (svcOf c.v) := by unfold applyR; rw [if_neg (by rw [ai]; decide), if_pos (by simpa using aa)]
   have hV_ : applyC V c.v = svcC (tickC (cntC V) c.v.time) (svcOf c.v) := by unfold applyC; rw [if_neg (by rw [ai]; decide), if_pos (by simpa using aa)]
   rw [hR_, hV_]
   exact ⟨F117, rfl, aC.fr, bq, fun x_ h_ => aC.ownF _ (List.mem_of_getElem? (show _[0]? = some F117 from rfl)) x_ h_⟩
  ·
   have cF : ¬ (c.v.kind = 1) := by simpa using aa
   refine WCf rfl ?_
   refine WCs (fun cY ak => ?_)
   refine WCg (WLq 2 [(41, .bool (c.v.kind == 2)), (42, .bool (c.v.kind == 2))] (WLd rfl (QXn (ak _ _ ?_))))
   refine WCa 41 (c.v.kind == 2) rfl (fun ac => ?_) (fun ac => ?_)
   ·
    have cH : c.v.kind = 2 := by simpa using ac
    refine WCt rfl ?_
    refine WCs (fun cZ aV => ?_)
    refine WCg (WLq 1 [(43, .pointer (some ⟨p, 0, none⟩))] ?_)
    refine WLo 45 (.pointer (some ⟨g3, 0, none⟩)) (.agg #[.int .i64 c.v.node, .int .i64 c.v.boot, .int .i64 c.v.seq, .int .i64 c.v.time, .int .i64 c.v.kind, .int .u32 c.v.svip, .int .i64 c.v.sproto, .int .i64 c.v.sport, .slice c.a c.v.ends.length c.c, .int .u32 c.v.dip, .int .u32 c.v.vip, .bool c.v.up]) 44 (run_ld (ad.get 1 rfl) rfl) ?_
    obtain ⟨ht0_, ht1_⟩ := goodC_time ai
    have br := Cx.pickM ad [0] [0, 1, 2, 3, 4] (by decide) rfl rfl
    obtain ⟨bs, cI, b3⟩ := cfg_close (V := (tickC (cntC V) c.v.time)) (xs := xs) br aI aJ aK aL aM hvals
    have bt := ad.toF 0 rfl
    have bu := Cx_join bt 3 4 rfl rfl (by decide)
    have bv := Cx_join bu 2 3 rfl rfl (by decide)
    have bw := Cx_join bv 1 2 rfl rfl (by decide)
    have bx := Cx_join bw 0 1 rfl rfl (by decide)
    have bz := Cx_join bx 5 0 rfl rfl (by decide)
    have bA := Cx.pickM bz [0, 1] [5] (by decide) rfl rfl
    refine WLc rfl rfl rfl rfl rfl (by kernel_rfl) (snat_ct (p :: (blk (.slice AS xs.length cS) ++ (blk (.slice AN V.snats.length cN) ++ (blk (.slice AK V.sick.length cK) ++ (blk (.slice AL V.leases.length cL) ++ R))))) p (tickC (cntC V) c.v.time) (n + 1) c b1 bs (wf_tick hw ht0_ ht1_) (by omega) ) ?_
    rintro _ c0 ⟨F144, rfl, bB, aW, aO⟩
    have aX := bA.callF 0 rfl bB aO (cfgAt_lt aW)
    refine ⟨_, rfl, ?_⟩
    refine WLs (c' := #[.int .i64 ((snatR (tickC (cntC V) c.v.time) ⟨c.v.dip, c.v.vip⟩ c.v.up).err), .int .u32 ((snatR (tickC (cntC V) c.v.time) ⟨c.v.dip, c.v.vip⟩ c.v.up).lease.vip), .int .i64 ((snatR (tickC (cntC V) c.v.time) ⟨c.v.dip, c.v.vip⟩ c.v.up).lease.first), .int .u32 ((snatR (tickC (cntC V) c.v.time) ⟨c.v.dip, c.v.vip⟩ c.v.up).lease.dip), .int .i64 ((snatR (tickC (cntC V) c.v.time) ⟨c.v.dip, c.v.vip⟩ c.v.up).lease.exp)]) aX 1 52 a6 0 (.agg #[.int .i64 ((snatR (tickC (cntC V) c.v.time) ⟨c.v.dip, c.v.vip⟩ c.v.up).err), .int .u32 ((snatR (tickC (cntC V) c.v.time) ⟨c.v.dip, c.v.vip⟩ c.v.up).lease.vip), .int .i64 ((snatR (tickC (cntC V) c.v.time) ⟨c.v.dip, c.v.vip⟩ c.v.up).lease.first), .int .u32 ((snatR (tickC (cntC V) c.v.time) ⟨c.v.dip, c.v.vip⟩ c.v.up).lease.dip), .int .i64 ((snatR (tickC (cntC V) c.v.time) ⟨c.v.dip, c.v.vip⟩ c.v.up).lease.exp)]) (by kernel_rfl) rfl (by kernel_rfl) (fun c1 bC aD => ?_)
    have bD := cfgAt.fr aW bC (aX.apartM 0 1 rfl rfl)
    refine WLd rfl (QXn (aV _ _ ?_))
    refine WC.ret ?_
    refine QXk ?_
    refine QXr ?_
    refine (hret' _ _ (.agg #[.int .i64 ((snatR (tickC (cntC V) c.v.time) ⟨c.v.dip, c.v.vip⟩ c.v.up).err), .int .u32 ((snatR (tickC (cntC V) c.v.time) ⟨c.v.dip, c.v.vip⟩ c.v.up).lease.vip), .int .i64 ((snatR (tickC (cntC V) c.v.time) ⟨c.v.dip, c.v.vip⟩ c.v.up).lease.first), .int .u32 ((snatR (tickC (cntC V) c.v.time) ⟨c.v.dip, c.v.vip⟩ c.v.up).lease.dip), .int .i64 ((snatR (tickC (cntC V) c.v.time) ⟨c.v.dip, c.v.vip⟩ c.v.up).lease.exp)]) (fun a ha => ?_) ?_).1
    ·
     exact res_run ha ((ResR.cell rfl (run_ld (aD.get 1 rfl) rfl) ResR.nil)) rfl
    clear hN hret hret' aV ak ah ag aB az aq ao an am hK2
    have hR_ : applyR V c.v = snatR (tickC (cntC V) c.v.time) ⟨c.v.dip, c.v.vip⟩ c.v.up := by unfold applyR; rw [if_neg (by rw [ai]; decide), if_neg (by simpa using aa), if_pos (by simpa using ac)]
    have hV_ : applyC V c.v = snatC (tickC (cntC V) c.v.time) ⟨c.v.dip, c.v.vip⟩ c.v.up := by unfold applyC; rw [if_neg (by rw [ai]; decide), if_neg (by simpa using aa), if_pos (by simpa using ac)]
    rw [hR_, hV_]
    exact ⟨F144, rfl, aD.fr, bD, fun x_ h_ => aD.ownF _ (List.mem_of_getElem? (show _[0]? = some F144 from rfl)) x_ h_⟩
   ·
    have cH : ¬ (c.v.kind = 2) := by simpa using ac
    refine WCf rfl ?_
    refine WCs (fun c2 aE => ?_)
    refine WCg (WLq 2 [(46, .bool (c.v.kind == 3)), (47, .bool (c.v.kind == 3))] (WLd rfl (QXn (aE _ _ ?_))))
    refine WCa 46 (c.v.kind == 3) rfl (fun ae => ?_) (fun ae => ?_)
    ·
     have cJ : c.v.kind = 3 := by simpa using ae
     refine WCt rfl ?_
     refine WCs (fun c3 aY => ?_)
     refine WCg (WLq 1 [(48, .pointer (some ⟨p, 0, none⟩))] ?_)
     refine WLo 45 (.pointer (some ⟨g3, 0, none⟩)) (.agg #[.int .i64 c.v.node, .int .i64 c.v.boot, .int .i64 c.v.seq, .int .i64 c.v.time, .int .i64 c.v.kind, .int .u32 c.v.svip, .int .i64 c.v.sproto, .int .i64 c.v.sport, .slice c.a c.v.ends.length c.c, .int .u32 c.v.dip, .int .u32 c.v.vip, .bool c.v.up]) 49 (run_ld (ad.get 1 rfl) rfl) ?_
     obtain ⟨ht0_, ht1_⟩ := goodC_time ai
     have bE := Cx.pickM ad [0] [0, 1, 2, 3, 4] (by decide) rfl rfl
     obtain ⟨bF, cM, b4⟩ := cfg_close (V := (tickC (cntC V) c.v.time)) (xs := xs) bE aI aJ aK aL aM hvals
     have bG := ad.toF 0 rfl
     have bH := Cx_join bG 3 4 rfl rfl (by decide)
     have bI := Cx_join bH 2 3 rfl rfl (by decide)
     have bJ := Cx_join bI 1 2 rfl rfl (by decide)
     have bK := Cx_join bJ 0 1 rfl rfl (by decide)
     have bL := Cx_join bK 5 0 rfl rfl (by decide)
     have bM := Cx.pickM bL [0, 1] [5] (by decide) rfl rfl
     refine WLc rfl rfl rfl rfl rfl (by kernel_rfl) (health_ct (p :: (blk (.slice AS xs.length cS) ++ (blk (.slice AN V.snats.length cN) ++ (blk (.slice AK V.sick.length cK) ++ (blk (.slice AL V.leases.length cL) ++ R))))) p (tickC (cntC V) c.v.time) (n + 1) c b1 bF (wf_tick hw ht0_ ht1_) (by omega) ) ?_
     rintro _ c4 ⟨F171, rfl, bN, aZ, aP⟩
     have a0 := bM.callF 0 rfl bN aP (cfgAt_lt aZ)
     refine ⟨_, rfl, ?_⟩
     refine WLs (c' := #[.int .i64 ((okR).err), .int .u32 ((okR).lease.vip), .int .i64 ((okR).lease.first), .int .u32 ((okR).lease.dip), .int .i64 ((okR).lease.exp)]) a0 1 52 a6 0 (.agg #[.int .i64 ((okR).err), .int .u32 ((okR).lease.vip), .int .i64 ((okR).lease.first), .int .u32 ((okR).lease.dip), .int .i64 ((okR).lease.exp)]) (by kernel_rfl) rfl (by kernel_rfl) (fun c5 bO aF => ?_)
     have bP := cfgAt.fr aZ bO (a0.apartM 0 1 rfl rfl)
     refine WLd rfl (QXn (aY _ _ ?_))
     refine WC.ret ?_
     refine QXk ?_
     refine QXr ?_
     refine (hret' _ _ (.agg #[.int .i64 ((okR).err), .int .u32 ((okR).lease.vip), .int .i64 ((okR).lease.first), .int .u32 ((okR).lease.dip), .int .i64 ((okR).lease.exp)]) (fun a ha => ?_) ?_).1
     ·
      exact res_run ha ((ResR.cell rfl (run_ld (aF.get 1 rfl) rfl) ResR.nil)) rfl
     clear hN hret hret' aY aE ak ah ag aB az aq ao an am hK2
     have hR_ : applyR V c.v = okR := by unfold applyR; rw [if_neg (by rw [ai]; decide), if_neg (by simpa using aa), if_neg (by simpa using ac), if_pos (by simpa using ae)]
     have hV_ : applyC V c.v = sickC (tickC (cntC V) c.v.time) c.v.dip c.v.up := by unfold applyC; rw [if_neg (by rw [ai]; decide), if_neg (by simpa using aa), if_neg (by simpa using ac), if_pos (by simpa using ae)]
     rw [hR_, hV_]
     exact ⟨F171, rfl, aF.fr, bP, fun x_ h_ => aF.ownF _ (List.mem_of_getElem? (show _[0]? = some F171 from rfl)) x_ h_⟩
    ·
     have cJ : ¬ (c.v.kind = 3) := by simpa using ae
     refine WCf rfl (WC.skip ?_)
     refine QXb ?_
     refine QXn (aB _ _ ?_)
     refine WCs (fun c6 a1 => ?_)
     refine WCg (WLq 2 [(52, .pointer (some ⟨g3, 9, none⟩)), (51, .pointer (some ⟨p, 0, none⟩))] ?_)
     refine WLo 40 (.pointer (some ⟨g3, 9, none⟩)) (.int .u32 c.v.dip) 53 (run_ld (ad.get 1 rfl) rfl) ?_
     obtain ⟨ht0_, ht1_⟩ := goodC_time ai
     have bQ := Cx.pickM ad [0] [0, 1, 2, 3, 4] (by decide) rfl rfl
     obtain ⟨bR, cO, b5⟩ := cfg_close (V := (tickC (cntC V) c.v.time)) (xs := xs) bQ aI aJ aK aL aM hvals
     have bS := ad.toF 0 rfl
     have bT := Cx_join bS 3 4 rfl rfl (by decide)
     have bU := Cx_join bT 2 3 rfl rfl (by decide)
     have bV := Cx_join bU 1 2 rfl rfl (by decide)
     have bW := Cx_join bV 0 1 rfl rfl (by decide)
     have bX := Cx_join bW 5 0 rfl rfl (by decide)
     have aG := Cx.pickM bX [0, 1] [5] (by decide) rfl rfl
     refine WLc rfl rfl rfl rfl rfl (by kernel_rfl) (lease_ct (p :: (blk (.slice AS xs.length cS) ++ (blk (.slice AN V.snats.length cN) ++ (blk (.slice AK V.sick.length cK) ++ (blk (.slice AL V.leases.length cL) ++ R))))) p (tickC (cntC V) c.v.time) (n + 1) c.v.dip b1 bR (wf_tick hw ht0_ ht1_) (by omega) hc.wf.dip (zero_notin h0 (dbTab_size hg) (fun x_ h_ => by have q_ := aG.ownF _ (List.mem_of_getElem? (show _[0]? = some _ from rfl)) x_ h_; exact q_)) (hg.frN aG.fr (fun b_ off_ e_ => by cases e_; exact h0))) ?_
     rintro _ c7 ⟨F195, rfl, bY, a2, aQ⟩
     have a3 := aG.callF 0 rfl bY aQ (cfgAt_lt a2)
     refine ⟨_, rfl, ?_⟩
     refine WLs (c' := #[.int .i64 ((leaseR (tickC (cntC V) c.v.time) c.v.dip).err), .int .u32 ((leaseR (tickC (cntC V) c.v.time) c.v.dip).lease.vip), .int .i64 ((leaseR (tickC (cntC V) c.v.time) c.v.dip).lease.first), .int .u32 ((leaseR (tickC (cntC V) c.v.time) c.v.dip).lease.dip), .int .i64 ((leaseR (tickC (cntC V) c.v.time) c.v.dip).lease.exp)]) a3 1 52 a6 0 (.agg #[.int .i64 ((leaseR (tickC (cntC V) c.v.time) c.v.dip).err), .int .u32 ((leaseR (tickC (cntC V) c.v.time) c.v.dip).lease.vip), .int .i64 ((leaseR (tickC (cntC V) c.v.time) c.v.dip).lease.first), .int .u32 ((leaseR (tickC (cntC V) c.v.time) c.v.dip).lease.dip), .int .i64 ((leaseR (tickC (cntC V) c.v.time) c.v.dip).lease.exp)]) (by kernel_rfl) rfl (by kernel_rfl) (fun c8 bZ aH => ?_)
     have b0 := cfgAt.fr a2 bZ (a3.apartM 0 1 rfl rfl)
     refine WLd rfl (QXn (a1 _ _ ?_))
     refine WC.ret ?_
     refine (hret' _ _ (.agg #[.int .i64 ((leaseR (tickC (cntC V) c.v.time) c.v.dip).err), .int .u32 ((leaseR (tickC (cntC V) c.v.time) c.v.dip).lease.vip), .int .i64 ((leaseR (tickC (cntC V) c.v.time) c.v.dip).lease.first), .int .u32 ((leaseR (tickC (cntC V) c.v.time) c.v.dip).lease.dip), .int .i64 ((leaseR (tickC (cntC V) c.v.time) c.v.dip).lease.exp)]) (fun a ha => ?_) ?_).1
     ·
      exact res_run ha ((ResR.cell rfl (run_ld (aH.get 1 rfl) rfl) ResR.nil)) rfl
     clear hN hret hret' a1 aE ak ah ag aB az aq ao an am hK2
     have hR_ : applyR V c.v = leaseR (tickC (cntC V) c.v.time) c.v.dip := by unfold applyR; rw [if_neg (by rw [ai]; decide), if_neg (by simpa using aa), if_neg (by simpa using ac), if_neg (by simpa using ae)]
     have hV_ : applyC V c.v = leaseC (tickC (cntC V) c.v.time) c.v.dip := by unfold applyC; rw [if_neg (by rw [ai]; decide), if_neg (by simpa using aa), if_neg (by simpa using ac), if_neg (by simpa using ae)]
     rw [hR_, hV_]
     exact ⟨F195, rfl, aH.fr, b0, fun x_ h_ => aH.ownF _ (List.mem_of_getElem? (show _[0]? = some F195 from rfl)) x_ h_⟩

end Go.Proofs.YtfligklljkcbfaaGreatDoor
