/- Contracts of functions of the program, each proved by a walk through its code; conditions stand in the statements. -/
import Derived.Test.YtfligklljkcbfaaDoorStM16
namespace Go.Proofs.YtfligklljkcbfaaDoor
set_option linter.unusedSimpArgs false
set_option linter.unusedVariables false
set_option linter.unusedSectionVars false
open Go Go.RowKit Go.Tw
set_option linter.unusedVariables false
set_option maxRecDepth 20000
theorem Cx_join {w0 w : World} {F0 : List Nat} {M : List (Nat × Obj)} {Fs : List (List Nat)} (h : Cx w0 F0 w M Fs) (i j : Nat) {A B : List Nat} (hi : Fs[i]? = some A) (hj : Fs[j]? = some B) (hij : i ≠ j) : Cx w0 F0 w M ((Fs.set i (A ++ B)).set j []) := by
  have hli := (List.getElem?_eq_some_iff.1 hi).1
  have hlj := (List.getElem?_eq_some_iff.1 hj).1
  have at_ : ∀ a G, ((Fs.set i (A ++ B)).set j [])[a]? = some G → ∀ x ∈ G, a ≠ j ∧ ∃ a' G', Fs[a']? = some G' ∧ x ∈ G' ∧ (a' = a ∨ (a = i ∧ a' = j)) := by
    intro a G hG x hx
    by_cases e : a = j
    · subst e
      rw [List.getElem?_set_self (by rw [List.length_set]; exact hlj)] at hG
      cases hG; cases hx
    · rw [List.getElem?_set_ne (Ne.symm e)] at hG
      refine ⟨e, ?_⟩
      by_cases e2 : a = i
      · subst e2
        rw [List.getElem?_set_self hli] at hG
        cases hG
        rcases List.mem_append.1 hx with hx | hx
        · exact ⟨a, A, hi, hx, .inl rfl⟩
        · exact ⟨j, B, hj, hx, .inr ⟨rfl, rfl⟩⟩
      · rw [List.getElem?_set_ne (Ne.symm e2)] at hG
        exact ⟨a, G, hG, hx, .inl rfl⟩
  have mem_ : ∀ G ∈ (Fs.set i (A ++ B)).set j [], ∀ x ∈ G, ∃ G' ∈ Fs, x ∈ G' := by
    intro G hG x hx
    obtain ⟨a, ha⟩ := List.getElem?_of_mem hG
    obtain ⟨_, a', G', h1, h2, _⟩ := at_ a G ha x hx
    exact ⟨G', List.mem_of_getElem? h1, h2⟩
  refine ⟨h.fr, h.has, h.nodup, ?_, ?_, ?_, h.ownM, ?_⟩
  · rw [List.pairwise_iff_getElem]
    intro a b ha hb hab x hx hx2
    obtain ⟨n1, a', G1, g1, m1, q1⟩ := at_ a _ (List.getElem?_eq_getElem ha) x hx
    obtain ⟨n2, b', G2, g2, m2, q2⟩ := at_ b _ (List.getElem?_eq_getElem hb) x hx2
    have hne : a' ≠ b' := by rcases q1 with rfl | ⟨rfl, rfl⟩ <;> rcases q2 with rfl | ⟨rfl, rfl⟩ <;> omega
    exact h.disj a' b' g1 g2 hne x m1 m2
  · intro G hG p hp hx
    obtain ⟨G', h1, h2⟩ := mem_ G hG _ hx
    exact h.apart G' h1 p hp h2
  · intro G hG x hx
    obtain ⟨G', h1, h2⟩ := mem_ G hG x hx
    exact h.bound G' h1 x h2
  · intro G hG x hx
    obtain ⟨G', h1, h2⟩ := mem_ G hG x hx
    exact h.ownF G' h1 x h2

theorem Cx_sw5 {w0 w : World} {F0 : List Nat} {M : List (Nat × Obj)} {A B C D R : List Nat} (h : Cx w0 F0 w M [A, B, C, R, D]) : Cx w0 F0 w M [A, B, C, D, R] := by
  have hs := h.sep
  have h1 := h.apart
  have h2 := h.bound
  have h3 := h.ownF
  simp only [List.pairwise_cons, List.mem_cons, List.not_mem_nil, or_false, forall_eq_or_imp, forall_eq, false_imp_iff, implies_true, List.Pairwise.nil, and_true] at hs h1 h2 h3
  refine ⟨h.fr, h.has, h.nodup, ?_, ?_, ?_, h.ownM, ?_⟩
  · simp only [List.pairwise_cons, List.mem_cons, List.not_mem_nil, or_false, forall_eq_or_imp, forall_eq, false_imp_iff, implies_true, List.Pairwise.nil, and_true]
    obtain ⟨⟨a1, a2, a3, a4⟩, ⟨b1, b2, b3⟩, ⟨c1, c2⟩, d1⟩ := hs
    exact ⟨⟨a1, a2, a4, a3⟩, ⟨b1, b3, b2⟩, ⟨c2, c1⟩, fun x hx hx2 => d1 x hx2 hx⟩
  · simp only [List.mem_cons, List.not_mem_nil, or_false, forall_eq_or_imp, forall_eq]
    exact ⟨h1.1, h1.2.1, h1.2.2.1, h1.2.2.2.2, h1.2.2.2.1⟩
  · simp only [List.mem_cons, List.not_mem_nil, or_false, forall_eq_or_imp, forall_eq]
    exact ⟨h2.1, h2.2.1, h2.2.2.1, h2.2.2.2.2, h2.2.2.2.1⟩
  · simp only [List.mem_cons, List.not_mem_nil, or_false, forall_eq_or_imp, forall_eq]
    exact ⟨h3.1, h3.2.1, h3.2.2.1, h3.2.2.2.2, h3.2.2.2.1⟩
theorem Cx.reset5 {w0 w : World} {F0 : List Nat} {p : Nat} {o : Obj} {A B C D R : List Nat} (h : Cx w0 F0 w [(p, o)] [A, B, C, D, R]) : Cx w (p :: (A ++ (B ++ (C ++ (D ++ R))))) w [(p, o)] [A, B, C, D, R] :=
  ⟨.refl _ _, h.has, h.nodup, h.sep, h.apart, h.bound, by simp, by
    intro X hX x hx
    refine .inl (List.mem_cons_of_mem _ ?_)
    simp only [List.mem_append]
    simp only [List.mem_cons, List.not_mem_nil, or_false] at hX
    rcases hX with rfl | rfl | rfl | rfl | rfl
    · exact .inl hx
    · exact .inr (.inl hx)
    · exact .inr (.inr (.inl hx))
    · exact .inr (.inr (.inr (.inl hx)))
    · exact .inr (.inr (.inr (.inr hx)))⟩
theorem Cx.subs5 {w0 w : World} {F0 : List Nat} {p : Nat} {o : Obj} {A B C D R : List Nat} (h : Cx w0 F0 w [(p, o)] [A, B, C, D, R]) : ∀ x ∈ p :: (A ++ (B ++ (C ++ (D ++ R)))), x ∈ F0 ∨ w0.heap.size ≤ x := by
  intro x hx
  simp only [List.mem_cons, List.mem_append] at hx
  rcases hx with rfl | hx | hx | hx | hx | hx
  · exact h.ownM (x, o) (by simp)
  · exact h.ownF A (by simp) x hx
  · exact h.ownF B (by simp) x hx
  · exact h.ownF C (by simp) x hx
  · exact h.ownF D (by simp) x hx
  · exact h.ownF R (by simp) x hx
theorem Cx.lts5 {w0 w : World} {F0 : List Nat} {p : Nat} {o : Obj} {A B C D R : List Nat} (h : Cx w0 F0 w [(p, o)] [A, B, C, D, R]) : ∀ x ∈ p :: (A ++ (B ++ (C ++ (D ++ R)))), x < w.heap.size := by
  intro x hx
  simp only [List.mem_cons, List.mem_append] at hx
  rcases hx with rfl | hx | hx | hx | hx | hx
  · exact h.lt (p := (x, o)) (by simp)
  · exact h.bound A (by simp) x hx
  · exact h.bound B (by simp) x hx
  · exact h.bound C (by simp) x hx
  · exact h.bound D (by simp) x hx
  · exact h.bound R (by simp) x hx
theorem Cx.move5 {w w' : World} {F0 G : List Nat} {p : Nat} {o : Obj} {A B C D R : List Nat} (h : Cx w F0 w [(p, o)] [A, B, C, D, R]) (hf : Fr w w' G) (hp : p ∉ G) : Cx w' F0 w' [(p, o)] [A, B, C, D, R] :=
  ⟨.refl _ _, fun q hq => by rw [List.mem_singleton] at hq; subst hq; exact hf.has (h.has _ (by simp)) hp, h.nodup, h.sep, h.apart, fun F hF x hx => Nat.lt_of_lt_of_le (h.bound F hF x hx) hf.size,
    fun q hq => .inl ((h.ownM q hq).resolve_right (fun hge => by have := h.lt hq; omega)), fun F hF x hx => .inl ((h.ownF F hF x hx).resolve_right (fun hge => by have := h.bound F hF x hx; omega))⟩
def cfgAt (w : World) (F : List Nat) (p : Nat) (V : CfgV) : Prop :=
  ∃ (AS : Option Addr) (cS : Nat) (xs : List Svc) (AN : Option Addr) (cN : Nat) (AK : Option Addr) (cK : Nat) (AL : Option Addr) (cL : Nat) (R : List Nat),
    Cx w F w [(p, .cells #[.int .i64 V.epoch, .int .i64 V.now, .slice AS xs.length cS, .slice AN V.snats.length cN, .slice AK V.sick.length cK, .slice AL V.leases.length cL] 69 (0, 0))] [blk (.slice AS xs.length cS), blk (.slice AN V.snats.length cN), blk (.slice AK V.sick.length cK), blk (.slice AL V.leases.length cL), R] ∧
    F = p :: (blk (.slice AS xs.length cS) ++ (blk (.slice AN V.snats.length cN) ++ (blk (.slice AK V.sick.length cK) ++ (blk (.slice AL V.leases.length cL) ++ R)))) ∧
    w.ownsRow 0 52 4 (.slice AS xs.length cS) xs.length (xs.flatMap cellsS) ∧ w.ownsRow 0 54 2 (.slice AN V.snats.length cN) V.snats.length (V.snats.flatMap cellsN) ∧
    w.ownsRow 0 41 1 (.slice AK V.sick.length cK) V.sick.length (V.sick.flatMap (Go.Tw.encI .u32)) ∧ w.ownsRow 0 43 4 (.slice AL V.leases.length cL) V.leases.length (V.leases.flatMap encL) ∧
    svcsIn w R xs ∧ xs.map (·.v) = V.svcs
theorem cfg_close {w0 w : World} {F0 : List Nat} {p : Nat} {V : CfgV} {AS : Option Addr} {cS : Nat} {xs : List Svc} {AN : Option Addr} {cN : Nat} {AK : Option Addr} {cK : Nat} {AL : Option Addr} {cL : Nat} {R : List Nat}
    (h : Cx w0 F0 w [(p, .cells #[.int .i64 V.epoch, .int .i64 V.now, .slice AS xs.length cS, .slice AN V.snats.length cN, .slice AK V.sick.length cK, .slice AL V.leases.length cL] 69 (0, 0))] [blk (.slice AS xs.length cS), blk (.slice AN V.snats.length cN), blk (.slice AK V.sick.length cK), blk (.slice AL V.leases.length cL), R])
    (hS : w.ownsRow 0 52 4 (.slice AS xs.length cS) xs.length (xs.flatMap cellsS)) (hN : w.ownsRow 0 54 2 (.slice AN V.snats.length cN) V.snats.length (V.snats.flatMap cellsN))
    (hK : w.ownsRow 0 41 1 (.slice AK V.sick.length cK) V.sick.length (V.sick.flatMap (Go.Tw.encI .u32))) (hL : w.ownsRow 0 43 4 (.slice AL V.leases.length cL) V.leases.length (V.leases.flatMap encL))
    (hi : svcsIn w R xs) (hv : xs.map (·.v) = V.svcs) :
    cfgAt w (p :: (blk (.slice AS xs.length cS) ++ (blk (.slice AN V.snats.length cN) ++ (blk (.slice AK V.sick.length cK) ++ (blk (.slice AL V.leases.length cL) ++ R))))) p V ∧ Fr w0 w F0 ∧ ∀ x ∈ p :: (blk (.slice AS xs.length cS) ++ (blk (.slice AN V.snats.length cN) ++ (blk (.slice AK V.sick.length cK) ++ (blk (.slice AL V.leases.length cL) ++ R)))), x ∈ F0 ∨ w0.heap.size ≤ x :=
  ⟨⟨AS, cS, xs, AN, cN, AK, cK, AL, cL, R, Cx.reset5 h, rfl, hS, hN, hK, hL, hi, hv⟩, h.fr, Cx.subs5 h⟩
theorem cfgAt_lt {w : World} {F : List Nat} {p : Nat} {V : CfgV} (h : cfgAt w F p V) : ∀ x ∈ F, x < w.heap.size := by
  obtain ⟨AS, cS, xs, AN, cN, AK, cK, AL, cL, R, hC, rfl, _⟩ := h
  exact Cx.lts5 hC
theorem cfgAt.fr {w w' : World} {F G : List Nat} {p : Nat} {V : CfgV} (h : cfgAt w F p V) (hf : Fr w w' G) (hd : ∀ x ∈ F, x ∉ G) : cfgAt w' F p V := by
  obtain ⟨AS, cS, xs, AN, cN, AK, cK, AL, cL, R, hC, rfl, h1, h2, h3, h4, h5, h6⟩ := h
  simp only [List.mem_cons, List.mem_append] at hd
  exact ⟨AS, cS, xs, AN, cN, AK, cK, AL, cL, R, Cx.move5 hC hf (hd p (.inl rfl)), rfl, own_fr h1 hf (fun x hx => hd x (.inr (.inl hx))), own_fr h2 hf (fun x hx => hd x (.inr (.inr (.inl hx)))), own_fr h3 hf (fun x hx => hd x (.inr (.inr (.inr (.inl hx))))), own_fr h4 hf (fun x hx => hd x (.inr (.inr (.inr (.inr (.inl hx)))))), h5.fr hf (fun x hx => hd x (.inr (.inr (.inr (.inr (.inr hx)))))), h6⟩
set_option maxHeartbeats 1000000 in
theorem snat_ct (F : List Nat) (p : Nat) (V : CfgV) (n : Nat) (c : Cmd) (w : World) (h : cfgAt w F p V) (hw : wfCfg V n) (hn : n ≤ 100000000000) : Calls Tryd.prog 47 #[.pointer (some ⟨p, 0, none⟩), .agg #[.int .i64 c.v.node, .int .i64 c.v.boot, .int .i64 c.v.seq, .int .i64 c.v.time, .int .i64 c.v.kind, .int .u32 c.v.svip, .int .i64 c.v.sproto, .int .i64 c.v.sport, .slice c.a c.v.ends.length c.c, .int .u32 c.v.dip, .int .u32 c.v.vip, .bool c.v.up]] w fun e w' => ∃ F2, e = .returned (.agg #[.int .i64 ((snatR V ⟨c.v.dip, c.v.vip⟩ c.v.up).err), .int .u32 ((snatR V ⟨c.v.dip, c.v.vip⟩ c.v.up).lease.vip), .int .i64 ((snatR V ⟨c.v.dip, c.v.vip⟩ c.v.up).lease.first), .int .u32 ((snatR V ⟨c.v.dip, c.v.vip⟩ c.v.up).lease.dip), .int .i64 ((snatR V ⟨c.v.dip, c.v.vip⟩ c.v.up).lease.exp)]) ∧ Fr w w' F ∧ cfgAt w' F2 p (snatC V ⟨c.v.dip, c.v.vip⟩ c.v.up) ∧ ∀ x ∈ F2, x ∈ F ∨ w.heap.size ≤ x := by
 refine enterD (n := 37) Tryd.func47 rfl rfl (Nat.le_of_ble_eq_true rfl) ?_
 intro Q0 hN hret hret'
 obtain ⟨AS, cS, xs, AN, cN, AK, cK, AL, cL, R, hC, hF_, hrS, hrN, hrK, hrL, hin, hvals⟩ := h
 have hssx_ : sortK kS xs := sortK_map (by rw [hvals]; exact hw.ssort)
 have hslx_ : V.svcs.length = xs.length := by rw [← hvals, List.length_map]
 have hws1_ := hw.sn
 have hws2_ := hw.nn
 have hws3_ := hw.kn
 have hws4_ := hw.ln
 have hws5_ := hw.ep0
 have hws6_ := hw.ep1
 have hws7_ := hw.now0
 have hws8_ := hw.now1
 refine WCs (fun K1 hK2 => ?_)
 refine WCg ?_
 refine WL.newM hC (fun b => .pointer (some ⟨b, 0, none⟩)) (.cells #[.int .i64 c.v.node, .int .i64 c.v.boot, .int .i64 c.v.seq, .int .i64 c.v.time, .int .i64 c.v.kind, .int .u32 c.v.svip, .int .i64 c.v.sproto, .int .i64 c.v.sport, .slice c.a c.v.ends.length c.c, .int .u32 c.v.dip, .int .u32 c.v.vip, .bool c.v.up] 56) 3 (fun _ => by kernel_rfl) (fun g3 w4 hb7 hF5 hC6 => ?_)
 have ho8 := own_fr hrS hF5 (by simp)
 have ho9 := own_fr hrN hF5 (by simp)
 have ho10 := own_fr hrK hF5 (by simp)
 have ho11 := own_fr hrL hF5 (by simp)
 have hf12 := svcsIn.fr hin hF5 (by simp)
 have hf13 := (Fr.refl w []).trans hF5 (by simp)
 refine WL.newM hC6 (fun b => .pointer (some ⟨b, 0, none⟩)) (.cells #[.int .i64 0, .int .u32 0, .int .i64 0, .int .u32 0, .int .i64 0] 47) 4 (fun _ => by kernel_rfl) (fun g14 w15 hb18 hF16 hC17 => ?_)
 have ho19 := own_fr ho8 hF16 (by simp)
 have ho20 := own_fr ho9 hF16 (by simp)
 have ho21 := own_fr ho10 hF16 (by simp)
 have ho22 := own_fr ho11 hF16 (by simp)
 have hf23 := svcsIn.fr hf12 hF16 (by simp)
 have hf24 := hf13.trans hF16 (by simp)
 refine WLd rfl (QXn (hK2 _ _ ?_))
 refine WCs (fun K25 hK26 => ?_)
 refine WCg (WLr 1 [(5, .bool false)] (fun _ => by kernel_rfl) (WLd rfl (QXn (hK26 _ _ ?_))))
 refine WCs (fun K27 hK28 => ?_)
 refine WC.drawC hC17 (p :: blk (.slice AN V.snats.length cN)) (by kernel_rfl) (fun w29 hF30 hC31 hS32 => ?_)
 have ho33 := own_fr ho19 hF30 (by simp)
 have ho34 := own_fr ho20 hF30 (by simp)
 have ho35 := own_fr ho21 hF30 (by simp)
 have ho36 := own_fr ho22 hF30 (by simp)
 have hf37 := svcsIn.fr hf23 hF30 (by simp)
 have hf38 := hf24.trans hF30 (by simp)
 refine WDp (NPt hN) 0 7 (.pointer (some ⟨p, 0, none⟩)) (by kernel_rfl) (fun _ => by kernel_rfl) hS32 ?_
 refine WDp (NPt hN) 1 8 (.pointer (some ⟨p, 0, none⟩)) (by kernel_rfl) (fun _ => by kernel_rfl) hS32 ?_
 refine WDp (NPt hN) 2 9 (.pointer (some ⟨p, 0, none⟩)) (by kernel_rfl) (fun _ => by kernel_rfl) hS32 ?_
 refine WDp (NPt hN) 3 10 (.pointer (some ⟨p, 0, none⟩)) (by kernel_rfl) (fun _ => by kernel_rfl) hS32 ?_
 refine WDp (NPt hN) 4 11 (.pointer (some ⟨p, 3, none⟩)) (by kernel_rfl) (fun _ => by kernel_rfl) hS32 ?_
 refine WDp (NPt hN) 6 13 (.pointer (some ⟨g3, 9, none⟩)) (by kernel_rfl) (fun _ => by kernel_rfl) hS32 ?_
 refine WDp (NPt hN) 8 15 (.pointer (some ⟨g3, 10, none⟩)) (by kernel_rfl) (fun _ => by kernel_rfl) hS32 ?_
 refine WDp (NPt hN) 11 18 (.pointer (some ⟨g3, 11, none⟩)) (by kernel_rfl) (fun _ => by kernel_rfl) hS32 ?_
 refine WDl (NPt hN) 7 41 (.pointer (some ⟨g3, 9, none⟩)) (.int .u32 c.v.dip) 14 (by kernel_rfl) (by kernel_rfl) (fun _ hS_ => run_ld (Fr.has hS_ (hC31.get 1 rfl) (fun h_ => (List.mem_cons.1 h_).elim (hC31.ne 1 0 rfl rfl (by decide)) (hC31.notin 1 1 rfl rfl))) rfl) hS32 ?_
 refine WDl (NPt hN) 9 41 (.pointer (some ⟨g3, 10, none⟩)) (.int .u32 c.v.vip) 16 (by kernel_rfl) (by kernel_rfl) (fun _ hS_ => run_ld (Fr.has hS_ (hC31.get 1 rfl) (fun h_ => (List.mem_cons.1 h_).elim (hC31.ne 1 0 rfl rfl (by decide)) (hC31.notin 1 1 rfl rfl))) rfl) hS32 ?_
 refine WDp (NPt hN) 10 17 (.agg #[.int .u32 c.v.dip, .int .u32 c.v.vip]) (by kernel_rfl) (fun _ => by kernel_rfl) hS32 ?_
 refine WDl (NPt hN) 12 4 (.pointer (some ⟨g3, 11, none⟩)) (.bool c.v.up) 19 (by kernel_rfl) (by kernel_rfl) (fun _ hS_ => run_ld (Fr.has hS_ (hC31.get 1 rfl) (fun h_ => (List.mem_cons.1 h_).elim (hC31.ne 1 0 rfl rfl (by decide)) (hC31.notin 1 1 rfl rfl))) rfl) hS32 ?_
 refine WDp (NPt hN) 13 20 (.bool !c.v.up) (by kernel_rfl) (fun _ => by kernel_rfl) hS32 ?_
 refine WD.sem 5 (Instr.loadAt 27 (.pointer (some ⟨p, 3, none⟩))) 12 (.slice AN V.snats.length cN) (by kernel_rfl) (by kernel_rfl) (run_ld (hC31.get 0 rfl) rfl) hS32 ?_
 refine WD.call 14 (by kernel_rfl) rfl rfl rfl rfl rfl (by kernel_rfl) (putN_ct AN V.snats.length cN V.snats (⟨c.v.dip, c.v.vip⟩ : SnatV) (!c.v.up) w29 ho34 (hw.nsort) (by omega)) ?_
 rintro _ w42 ⟨v_, rfl, hF43, ho44, hsub45⟩
 have hC46 := hC31.callF 1 rfl hF43 hsub45 (own_lt ho44)
 obtain ⟨A39, c40, rfl, hle41⟩ := own_form ho44
 have hS47 := hS32.trans hF43 (fun x_ hx_ => .inl (List.mem_cons_of_mem _ hx_))
 refine ⟨_, rfl, hS47, ?_⟩
 have ho48 := own_fr ho33 hF43 (hC31.disj 0 1 rfl rfl (by decide))
 have ho49 := own_fr ho35 hF43 (hC31.disj 2 1 rfl rfl (by decide))
 have ho50 := own_fr ho36 hF43 (hC31.disj 3 1 rfl rfl (by decide))
 have hf51 := svcsIn.fr hf37 hF43 (hC31.disj 4 1 rfl rfl (by decide))
 refine WDp (NPt hN) 15 6 (.tuple #[.slice A39 ((putK kN V.snats (⟨c.v.dip, c.v.vip⟩ : SnatV) (!c.v.up)).length) c40, .bool (hasK kN (kN (⟨c.v.dip, c.v.vip⟩ : SnatV)) V.snats)]) (by kernel_rfl) (fun _ => by kernel_rfl) hS47 ?_
 refine WDp (NPt hN) 16 22 (.slice A39 ((putK kN V.snats (⟨c.v.dip, c.v.vip⟩ : SnatV) (!c.v.up)).length) c40) (by kernel_rfl) (fun _ => by kernel_rfl) hS47 ?_
 refine WDp (NPt hN) 17 23 (.bool (hasK kN (kN (⟨c.v.dip, c.v.vip⟩ : SnatV)) V.snats)) (by kernel_rfl) (fun _ => by kernel_rfl) hS47 ?_
 refine WDp (NPt hN) 18 24 (.pointer (some ⟨p, 0, none⟩)) (by kernel_rfl) (fun _ => by kernel_rfl) hS47 ?_
 refine WDp (NPt hN) 19 25 (.pointer (some ⟨p, 0, none⟩)) (by kernel_rfl) (fun _ => by kernel_rfl) hS47 ?_
 refine WDp (NPt hN) 20 26 (.pointer (some ⟨p, 3, none⟩)) (by kernel_rfl) (fun _ => by kernel_rfl) hS47 ?_
 obtain ⟨w52, hr53, hF54, hC55⟩ := sto_run (c' := #[.int .i64 V.epoch, .int .i64 V.now, .slice AS xs.length cS, .slice A39 ((putK kN V.snats (⟨c.v.dip, c.v.vip⟩ : SnatV) (!c.v.up)).length) c40, .slice AK V.sick.length cK, .slice AL V.leases.length cL]) Tryd.prog hC46 0 27 p 3 (.slice A39 ((putK kN V.snats (⟨c.v.dip, c.v.vip⟩ : SnatV) (!c.v.up)).length) c40) rfl (by kernel_rfl)
 have hS56 := hS47.trans hF54 (by first | (simp; done) | (simp [*]; done) | (have q_ := hS47.size; simp; omega))
 refine WD.semU 21 (Instr.storeAt 27 (.pointer (some ⟨p, 3, none⟩)) (.slice A39 ((putK kN V.snats (⟨c.v.dip, c.v.vip⟩ : SnatV) (!c.v.up)).length) c40)) (by kernel_rfl) (by kernel_rfl) hr53 hS56 ?_
 have ho57 := own_fr ho48 hF54 (hC46.apartM 0 0 rfl rfl)
 have ho58 := own_fr ho44 hF54 (hC46.apartM 1 0 rfl rfl)
 have ho59 := own_fr ho49 hF54 (hC46.apartM 2 0 rfl rfl)
 have ho60 := own_fr ho50 hF54 (hC46.apartM 3 0 rfl rfl)
 have hf61 := svcsIn.fr hf51 hF54 (hC46.apartM 4 0 rfl rfl)
 refine WDp (NPt hN) 22 5 (.bool (hasK kN (kN (⟨c.v.dip, c.v.vip⟩ : SnatV)) V.snats)) (by kernel_rfl) (fun _ => by kernel_rfl) hS56 ?_
 refine WD.done (by kernel_rfl) ?_
 refine QXn (hK28 _ _ ?_)
 refine WCs (fun K62 hK63 => ?_)
 refine WCs (fun K64 hK65 => ?_)
 refine WCg (WLr 1 [(27, .pointer (some ⟨g3, 11, none⟩))] (fun _ => by kernel_rfl) ?_)
 refine WL.load 4 (.pointer (some ⟨g3, 11, none⟩)) (.bool c.v.up) 28 (by kernel_rfl) (run_ld (hC55.get 1 rfl) rfl) ?_
 refine WLr 2 [(30, .bool !c.v.up), (29, .bool !c.v.up)] (fun _ => by kernel_rfl) ?_
 refine WLa 30 (!c.v.up) rfl (fun t66b => ?_) (fun t66b => ?_)
 ·
  have t66 : c.v.up = false := by first | (simpa only [Bool.not_eq_true', Bool.not_eq_false'] using t66b) | simpa using t66b
  refine WLr 3 [(33, .bool (!(hasK kN (kN (⟨c.v.dip, c.v.vip⟩ : SnatV)) V.snats))), (32, .bool (!(hasK kN (kN (⟨c.v.dip, c.v.vip⟩ : SnatV)) V.snats))), (31, .bool (hasK kN (kN (⟨c.v.dip, c.v.vip⟩ : SnatV)) V.snats))] (fun _ => by kernel_rfl) (WLd rfl (QXn (hK65 _ _ ?_)))
  refine WCa 33 (!(hasK kN (kN (⟨c.v.dip, c.v.vip⟩ : SnatV)) V.snats)) rfl (fun t67b => ?_) (fun t67b => ?_)
  ·
   have t67 : (hasK kN (kN (⟨c.v.dip, c.v.vip⟩ : SnatV)) V.snats) = false := by first | (simpa only [Bool.not_eq_true', Bool.not_eq_false'] using t67b) | simpa using t67b
   refine WCt rfl ?_
   refine WCs (fun K68 hK69 => ?_)
   refine WCg (WLr 1 [(34, .iface 73 (.int .i64 6))] (fun _ => by kernel_rfl) ?_)
   refine WLc rfl rfl rfl rfl rfl (by kernel_rfl) (result_err 6 w52) ?_
   rintro _ w71 ⟨rfl, hF70⟩
   refine ⟨_, rfl, ?_⟩
   have hC72 := hC55.call hF70
   have ho73 := own_fr ho57 hF70 (by simp)
   have ho74 := own_fr ho58 hF70 (by simp)
   have ho75 := own_fr ho59 hF70 (by simp)
   have ho76 := own_fr ho60 hF70 (by simp)
   have hf77 := svcsIn.fr hf61 hF70 (by simp)
   refine WLs (c' := #[.int .i64 6, .int .u32 0, .int .i64 0, .int .u32 0, .int .i64 0]) hC72 2 47 g14 0 (.agg #[.int .i64 6, .int .u32 0, .int .i64 0, .int .u32 0, .int .i64 0]) (by kernel_rfl) rfl (by kernel_rfl) (fun w78 hF80 hC81 => ?_)
   have ho82 := own_fr ho73 hF80 (hC72.apartM 0 2 rfl rfl)
   have ho83 := own_fr ho74 hF80 (hC72.apartM 1 2 rfl rfl)
   have ho84 := own_fr ho75 hF80 (hC72.apartM 2 2 rfl rfl)
   have ho85 := own_fr ho76 hF80 (hC72.apartM 3 2 rfl rfl)
   have hf86 := svcsIn.fr hf77 hF80 (hC72.apartM 4 2 rfl rfl)
   refine WLd rfl (QXn (hK69 _ _ ?_))
   refine WC.ret ?_
   refine QXr ?_
   refine (hret' _ _ (.agg #[.int .i64 6, .int .u32 0, .int .i64 0, .int .u32 0, .int .i64 0]) (fun a ha => ?_) ?_).1
   ·
    exact res_run ha ((ResR.cell rfl (run_ld (hC81.get 2 rfl) rfl) ResR.nil)) rfl
   clear hN hret hret' hK69 hK65 hK63 hK28 hK26 hK2
   have hC90 := Cx.pickM hC81 [0] [0, 1, 2, 3, 4] (by decide) rfl rfl
   obtain ⟨hT87, hfr88, hsub89⟩ := cfg_close (V := snatC V ⟨c.v.dip, c.v.vip⟩ c.v.up) (xs := xs) hC90 ho82 ho83 ho84 ho85 hf86 hvals
   have hR_ : snatR V ⟨c.v.dip, c.v.vip⟩ c.v.up = errR 6 := by unfold snatR; rw [if_pos ⟨t66, t67⟩]
   rw [hR_]
   exact ⟨_, rfl, hfr88, hT87, hsub89⟩
  ·
   have t67 : (hasK kN (kN (⟨c.v.dip, c.v.vip⟩ : SnatV)) V.snats) = true := by first | (simpa only [Bool.not_eq_true', Bool.not_eq_false'] using t67b) | simpa using t67b
   refine WCf rfl (WC.skip (QXn (hK63 _ _ ?_)))
   refine WCs (fun K91 hK92 => ?_)
   refine WCg (WLr 1 [(36, .agg #[.int .i64 0, .int .u32 0, .int .i64 0, .int .u32 0, .int .i64 0])] (fun _ => by kernel_rfl) ?_)
   refine WLs (c' := #[.int .i64 0, .int .u32 0, .int .i64 0, .int .u32 0, .int .i64 0]) hC55 2 47 g14 0 (.agg #[.int .i64 0, .int .u32 0, .int .i64 0, .int .u32 0, .int .i64 0]) (by kernel_rfl) rfl (by kernel_rfl) (fun w93 hF95 hC96 => ?_)
   have ho97 := own_fr ho57 hF95 (hC55.apartM 0 2 rfl rfl)
   have ho98 := own_fr ho58 hF95 (hC55.apartM 1 2 rfl rfl)
   have ho99 := own_fr ho59 hF95 (hC55.apartM 2 2 rfl rfl)
   have ho100 := own_fr ho60 hF95 (hC55.apartM 3 2 rfl rfl)
   have hf101 := svcsIn.fr hf61 hF95 (hC55.apartM 4 2 rfl rfl)
   refine WLd rfl (QXn (hK92 _ _ ?_))
   refine WC.ret ?_
   refine (hret' _ _ (.agg #[.int .i64 0, .int .u32 0, .int .i64 0, .int .u32 0, .int .i64 0]) (fun a ha => ?_) ?_).1
   ·
    exact res_run ha ((ResR.cell rfl (run_ld (hC96.get 2 rfl) rfl) ResR.nil)) rfl
   clear hN hret hret' hK92 hK65 hK63 hK28 hK26 hK2
   have hC105 := Cx.pickM hC96 [0] [0, 1, 2, 3, 4] (by decide) rfl rfl
   obtain ⟨hT102, hfr103, hsub104⟩ := cfg_close (V := snatC V ⟨c.v.dip, c.v.vip⟩ c.v.up) (xs := xs) hC105 ho97 ho98 ho99 ho100 hf101 hvals
   have hR_ : snatR V ⟨c.v.dip, c.v.vip⟩ c.v.up = okR := by unfold snatR; rw [if_neg (fun q_ => by obtain ⟨q1_, q2_⟩ := q_; first | (exact absurd q1_ (by rw [t66]; decide)) | (exact absurd q2_ (by rw [t67]; decide)))]
   rw [hR_]
   exact ⟨_, rfl, hfr103, hT102, hsub104⟩
 ·
  have t66 : c.v.up = true := by first | (simpa only [Bool.not_eq_true', Bool.not_eq_false'] using t66b) | simpa using t66b
  refine WLr 3 [(33, .bool false), (32, undef), (31, undef)] (fun _ => by kernel_rfl) (WLd rfl (QXn (hK65 _ _ ?_)))
  refine WCf rfl (WC.skip (QXn (hK63 _ _ ?_)))
  refine WCs (fun K106 hK107 => ?_)
  refine WCg (WLr 1 [(36, .agg #[.int .i64 0, .int .u32 0, .int .i64 0, .int .u32 0, .int .i64 0])] (fun _ => by kernel_rfl) ?_)
  refine WLs (c' := #[.int .i64 0, .int .u32 0, .int .i64 0, .int .u32 0, .int .i64 0]) hC55 2 47 g14 0 (.agg #[.int .i64 0, .int .u32 0, .int .i64 0, .int .u32 0, .int .i64 0]) (by kernel_rfl) rfl (by kernel_rfl) (fun w108 hF110 hC111 => ?_)
  have ho112 := own_fr ho57 hF110 (hC55.apartM 0 2 rfl rfl)
  have ho113 := own_fr ho58 hF110 (hC55.apartM 1 2 rfl rfl)
  have ho114 := own_fr ho59 hF110 (hC55.apartM 2 2 rfl rfl)
  have ho115 := own_fr ho60 hF110 (hC55.apartM 3 2 rfl rfl)
  have hf116 := svcsIn.fr hf61 hF110 (hC55.apartM 4 2 rfl rfl)
  refine WLd rfl (QXn (hK107 _ _ ?_))
  refine WC.ret ?_
  refine (hret' _ _ (.agg #[.int .i64 0, .int .u32 0, .int .i64 0, .int .u32 0, .int .i64 0]) (fun a ha => ?_) ?_).1
  ·
   exact res_run ha ((ResR.cell rfl (run_ld (hC111.get 2 rfl) rfl) ResR.nil)) rfl
  clear hN hret hret' hK107 hK65 hK63 hK28 hK26 hK2
  have hC120 := Cx.pickM hC111 [0] [0, 1, 2, 3, 4] (by decide) rfl rfl
  obtain ⟨hT117, hfr118, hsub119⟩ := cfg_close (V := snatC V ⟨c.v.dip, c.v.vip⟩ c.v.up) (xs := xs) hC120 ho112 ho113 ho114 ho115 hf116 hvals
  have hR_ : snatR V ⟨c.v.dip, c.v.vip⟩ c.v.up = okR := by unfold snatR; rw [if_neg (fun q_ => by obtain ⟨q1_, q2_⟩ := q_; first | (exact absurd q1_ (by rw [t66]; decide)))]
  rw [hR_]
  exact ⟨_, rfl, hfr118, hT117, hsub119⟩

set_option maxHeartbeats 1000000 in
theorem health_ct (F : List Nat) (p : Nat) (V : CfgV) (n : Nat) (c : Cmd) (w : World) (h : cfgAt w F p V) (hw : wfCfg V n) (hn : n ≤ 100000000000) : Calls Tryd.prog 48 #[.pointer (some ⟨p, 0, none⟩), .agg #[.int .i64 c.v.node, .int .i64 c.v.boot, .int .i64 c.v.seq, .int .i64 c.v.time, .int .i64 c.v.kind, .int .u32 c.v.svip, .int .i64 c.v.sproto, .int .i64 c.v.sport, .slice c.a c.v.ends.length c.c, .int .u32 c.v.dip, .int .u32 c.v.vip, .bool c.v.up]] w fun e w' => ∃ F2, e = .returned (.agg #[.int .i64 ((okR).err), .int .u32 ((okR).lease.vip), .int .i64 ((okR).lease.first), .int .u32 ((okR).lease.dip), .int .i64 ((okR).lease.exp)]) ∧ Fr w w' F ∧ cfgAt w' F2 p (sickC V c.v.dip c.v.up) ∧ ∀ x ∈ F2, x ∈ F ∨ w.heap.size ≤ x := by
 refine enterD (n := 23) Tryd.func48 rfl rfl (Nat.le_of_ble_eq_true rfl) ?_
 intro Q0 hN hret hret'
 obtain ⟨AS, cS, xs, AN, cN, AK, cK, AL, cL, R, hC, hF_, hrS, hrN, hrK, hrL, hin, hvals⟩ := h
 have hssx_ : sortK kS xs := sortK_map (by rw [hvals]; exact hw.ssort)
 have hslx_ : V.svcs.length = xs.length := by rw [← hvals, List.length_map]
 have hws1_ := hw.sn
 have hws2_ := hw.nn
 have hws3_ := hw.kn
 have hws4_ := hw.ln
 have hws5_ := hw.ep0
 have hws6_ := hw.ep1
 have hws7_ := hw.now0
 have hws8_ := hw.now1
 refine WCs (fun K1 hK2 => ?_)
 refine WCg ?_
 refine WL.newM hC (fun b => .pointer (some ⟨b, 0, none⟩)) (.cells #[.int .i64 c.v.node, .int .i64 c.v.boot, .int .i64 c.v.seq, .int .i64 c.v.time, .int .i64 c.v.kind, .int .u32 c.v.svip, .int .i64 c.v.sproto, .int .i64 c.v.sport, .slice c.a c.v.ends.length c.c, .int .u32 c.v.dip, .int .u32 c.v.vip, .bool c.v.up] 56) 3 (fun _ => by kernel_rfl) (fun g3 w4 hb7 hF5 hC6 => ?_)
 have ho8 := own_fr hrS hF5 (by simp)
 have ho9 := own_fr hrN hF5 (by simp)
 have ho10 := own_fr hrK hF5 (by simp)
 have ho11 := own_fr hrL hF5 (by simp)
 have hf12 := svcsIn.fr hin hF5 (by simp)
 have hf13 := (Fr.refl w []).trans hF5 (by simp)
 refine WL.newM hC6 (fun b => .pointer (some ⟨b, 0, none⟩)) (.cells #[.int .i64 0, .int .u32 0, .int .i64 0, .int .u32 0, .int .i64 0] 47) 4 (fun _ => by kernel_rfl) (fun g14 w15 hb18 hF16 hC17 => ?_)
 have ho19 := own_fr ho8 hF16 (by simp)
 have ho20 := own_fr ho9 hF16 (by simp)
 have ho21 := own_fr ho10 hF16 (by simp)
 have ho22 := own_fr ho11 hF16 (by simp)
 have hf23 := svcsIn.fr hf12 hF16 (by simp)
 have hf24 := hf13.trans hF16 (by simp)
 refine WLd rfl (QXn (hK2 _ _ ?_))
 refine WCs (fun K25 hK26 => ?_)
 refine WC.drawC hC17 (p :: blk (.slice AK V.sick.length cK)) (by kernel_rfl) (fun w27 hF28 hC29 hS30 => ?_)
 have ho31 := own_fr ho19 hF28 (by simp)
 have ho32 := own_fr ho20 hF28 (by simp)
 have ho33 := own_fr ho21 hF28 (by simp)
 have ho34 := own_fr ho22 hF28 (by simp)
 have hf35 := svcsIn.fr hf23 hF28 (by simp)
 have hf36 := hf24.trans hF28 (by simp)
 refine WDp (NPt hN) 0 6 (.pointer (some ⟨p, 0, none⟩)) (by kernel_rfl) (fun _ => by kernel_rfl) hS30 ?_
 refine WDp (NPt hN) 1 7 (.pointer (some ⟨p, 0, none⟩)) (by kernel_rfl) (fun _ => by kernel_rfl) hS30 ?_
 refine WDp (NPt hN) 2 8 (.pointer (some ⟨p, 0, none⟩)) (by kernel_rfl) (fun _ => by kernel_rfl) hS30 ?_
 refine WDp (NPt hN) 3 9 (.pointer (some ⟨p, 0, none⟩)) (by kernel_rfl) (fun _ => by kernel_rfl) hS30 ?_
 refine WDp (NPt hN) 4 10 (.pointer (some ⟨p, 4, none⟩)) (by kernel_rfl) (fun _ => by kernel_rfl) hS30 ?_
 refine WDp (NPt hN) 6 12 (.pointer (some ⟨g3, 9, none⟩)) (by kernel_rfl) (fun _ => by kernel_rfl) hS30 ?_
 refine WDp (NPt hN) 8 14 (.pointer (some ⟨g3, 11, none⟩)) (by kernel_rfl) (fun _ => by kernel_rfl) hS30 ?_
 refine WDl (NPt hN) 7 41 (.pointer (some ⟨g3, 9, none⟩)) (.int .u32 c.v.dip) 13 (by kernel_rfl) (by kernel_rfl) (fun _ hS_ => run_ld (Fr.has hS_ (hC29.get 1 rfl) (fun h_ => (List.mem_cons.1 h_).elim (hC29.ne 1 0 rfl rfl (by decide)) (hC29.notin 2 1 rfl rfl))) rfl) hS30 ?_
 refine WDl (NPt hN) 9 4 (.pointer (some ⟨g3, 11, none⟩)) (.bool c.v.up) 15 (by kernel_rfl) (by kernel_rfl) (fun _ hS_ => run_ld (Fr.has hS_ (hC29.get 1 rfl) (fun h_ => (List.mem_cons.1 h_).elim (hC29.ne 1 0 rfl rfl (by decide)) (hC29.notin 2 1 rfl rfl))) rfl) hS30 ?_
 refine WD.sem 5 (Instr.loadAt 28 (.pointer (some ⟨p, 4, none⟩))) 11 (.slice AK V.sick.length cK) (by kernel_rfl) (by kernel_rfl) (run_ld (hC29.get 0 rfl) rfl) hS30 ?_
 refine WD.call 10 (by kernel_rfl) rfl rfl rfl rfl rfl (by kernel_rfl) (putA_ct AK V.sick.length cK V.sick c.v.dip c.v.up w27 ho33 (hw.ksort) (by omega)) ?_
 rintro _ w40 ⟨v_, rfl, hF41, ho42, hsub43⟩
 have hC44 := hC29.callF 2 rfl hF41 hsub43 (own_lt ho42)
 obtain ⟨A37, c38, rfl, hle39⟩ := own_form ho42
 have hS45 := hS30.trans hF41 (fun x_ hx_ => .inl (List.mem_cons_of_mem _ hx_))
 refine ⟨_, rfl, hS45, ?_⟩
 have ho46 := own_fr ho31 hF41 (hC29.disj 0 2 rfl rfl (by decide))
 have ho47 := own_fr ho32 hF41 (hC29.disj 1 2 rfl rfl (by decide))
 have ho48 := own_fr ho34 hF41 (hC29.disj 3 2 rfl rfl (by decide))
 have hf49 := svcsIn.fr hf35 hF41 (hC29.disj 4 2 rfl rfl (by decide))
 refine WDp (NPt hN) 11 5 (.tuple #[.slice A37 ((putK kA V.sick c.v.dip c.v.up).length) c38, .bool (hasK kA (kA c.v.dip) V.sick)]) (by kernel_rfl) (fun _ => by kernel_rfl) hS45 ?_
 refine WDp (NPt hN) 12 17 (.slice A37 ((putK kA V.sick c.v.dip c.v.up).length) c38) (by kernel_rfl) (fun _ => by kernel_rfl) hS45 ?_
 refine WDp (NPt hN) 13 18 (.bool (hasK kA (kA c.v.dip) V.sick)) (by kernel_rfl) (fun _ => by kernel_rfl) hS45 ?_
 refine WDp (NPt hN) 14 19 (.pointer (some ⟨p, 0, none⟩)) (by kernel_rfl) (fun _ => by kernel_rfl) hS45 ?_
 refine WDp (NPt hN) 15 20 (.pointer (some ⟨p, 0, none⟩)) (by kernel_rfl) (fun _ => by kernel_rfl) hS45 ?_
 refine WDp (NPt hN) 16 21 (.pointer (some ⟨p, 4, none⟩)) (by kernel_rfl) (fun _ => by kernel_rfl) hS45 ?_
 obtain ⟨w50, hr51, hF52, hC53⟩ := sto_run (c' := #[.int .i64 V.epoch, .int .i64 V.now, .slice AS xs.length cS, .slice AN V.snats.length cN, .slice A37 ((putK kA V.sick c.v.dip c.v.up).length) c38, .slice AL V.leases.length cL]) Tryd.prog hC44 0 28 p 4 (.slice A37 ((putK kA V.sick c.v.dip c.v.up).length) c38) rfl (by kernel_rfl)
 have hS54 := hS45.trans hF52 (by first | (simp; done) | (simp [*]; done) | (have q_ := hS45.size; simp; omega))
 refine WD.semU 17 (Instr.storeAt 28 (.pointer (some ⟨p, 4, none⟩)) (.slice A37 ((putK kA V.sick c.v.dip c.v.up).length) c38)) (by kernel_rfl) (by kernel_rfl) hr51 hS54 ?_
 have ho55 := own_fr ho46 hF52 (hC44.apartM 0 0 rfl rfl)
 have ho56 := own_fr ho47 hF52 (hC44.apartM 1 0 rfl rfl)
 have ho57 := own_fr ho42 hF52 (hC44.apartM 2 0 rfl rfl)
 have ho58 := own_fr ho48 hF52 (hC44.apartM 3 0 rfl rfl)
 have hf59 := svcsIn.fr hf49 hF52 (hC44.apartM 4 0 rfl rfl)
 refine WD.done (by kernel_rfl) ?_
 refine QXn (hK26 _ _ ?_)
 refine WCs (fun K60 hK61 => ?_)
 refine WCg (WLr 1 [(22, .agg #[.int .i64 0, .int .u32 0, .int .i64 0, .int .u32 0, .int .i64 0])] (fun _ => by kernel_rfl) ?_)
 refine WLs (c' := #[.int .i64 0, .int .u32 0, .int .i64 0, .int .u32 0, .int .i64 0]) hC53 2 47 g14 0 (.agg #[.int .i64 0, .int .u32 0, .int .i64 0, .int .u32 0, .int .i64 0]) (by kernel_rfl) rfl (by kernel_rfl) (fun w62 hF64 hC65 => ?_)
 have ho66 := own_fr ho55 hF64 (hC53.apartM 0 2 rfl rfl)
 have ho67 := own_fr ho56 hF64 (hC53.apartM 1 2 rfl rfl)
 have ho68 := own_fr ho57 hF64 (hC53.apartM 2 2 rfl rfl)
 have ho69 := own_fr ho58 hF64 (hC53.apartM 3 2 rfl rfl)
 have hf70 := svcsIn.fr hf59 hF64 (hC53.apartM 4 2 rfl rfl)
 refine WLd rfl (QXn (hK61 _ _ ?_))
 refine WC.ret ?_
 refine (hret' _ _ (.agg #[.int .i64 0, .int .u32 0, .int .i64 0, .int .u32 0, .int .i64 0]) (fun a ha => ?_) ?_).1
 ·
  exact res_run ha ((ResR.cell rfl (run_ld (hC65.get 2 rfl) rfl) ResR.nil)) rfl
 clear hN hret hret' hK61 hK26 hK2
 have hC74 := Cx.pickM hC65 [0] [0, 1, 2, 3, 4] (by decide) rfl rfl
 obtain ⟨hT71, hfr72, hsub73⟩ := cfg_close (V := sickC V c.v.dip c.v.up) (xs := xs) hC74 ho66 ho67 ho68 ho69 hf70 hvals
 exact ⟨_, rfl, hfr72, hT71, hsub73⟩

set_option maxHeartbeats 2000000 in
theorem service_ct (F : List Nat) (p : Nat) (V : CfgV) (n : Nat) (s : Svc) (w : World) (h : cfgAt w F p V) (hw : wfCfg V n) (hn : n ≤ 100000000000) (hs : svcAt w s) : Calls Tryd.prog 46 #[.pointer (some ⟨p, 0, none⟩), .agg #[.int .u32 s.v.vip, .int .i64 s.v.proto, .int .i64 s.v.port, .slice s.a s.v.ends.length s.c]] w fun e w' => ∃ F2, e = .returned (.agg #[.int .i64 ((svcR V s.v).err), .int .u32 ((svcR V s.v).lease.vip), .int .i64 ((svcR V s.v).lease.first), .int .u32 ((svcR V s.v).lease.dip), .int .i64 ((svcR V s.v).lease.exp)]) ∧ Fr w w' F ∧ cfgAt w' F2 p (svcC V s.v) ∧ ∀ x ∈ F2, x ∈ F ∨ w.heap.size ≤ x := by
 refine enterD (n := 69) Tryd.func46 rfl rfl (Nat.le_of_ble_eq_true rfl) ?_
 intro Q0 hN hret hret'
 obtain ⟨AS, cS, xs, AN, cN, AK, cK, AL, cL, R, hC, hF_, hrS, hrN, hrK, hrL, hin, hvals⟩ := h
 have hssx_ : sortK kS xs := sortK_map (by rw [hvals]; exact hw.ssort)
 have hslx_ : V.svcs.length = xs.length := by rw [← hvals, List.length_map]
 have hws1_ := hw.sn
 have hws2_ := hw.nn
 have hws3_ := hw.kn
 have hws4_ := hw.ln
 have hws5_ := hw.ep0
 have hws6_ := hw.ep1
 have hws7_ := hw.now0
 have hws8_ := hw.now1
 refine WCs (fun K1 hK2 => ?_)
 refine WCg ?_
 refine WL.newM hC (fun b => .pointer (some ⟨b, 0, none⟩)) (.cells #[.int .u32 s.v.vip, .int .i64 s.v.proto, .int .i64 s.v.port, .slice s.a s.v.ends.length s.c] 52) 3 (fun _ => by kernel_rfl) (fun g3 w4 hb7 hF5 hC6 => ?_)
 have ho8 := own_fr hrS hF5 (by simp)
 have ho9 := own_fr hrN hF5 (by simp)
 have ho10 := own_fr hrK hF5 (by simp)
 have ho11 := own_fr hrL hF5 (by simp)
 have hf12 := svcsIn.fr hin hF5 (by simp)
 have hf13 := (Fr.refl w []).trans hF5 (by simp)
 refine WL.newM hC6 (fun b => .pointer (some ⟨b, 0, none⟩)) (.cells #[.int .i64 0, .int .u32 0, .int .i64 0, .int .u32 0, .int .i64 0] 47) 4 (fun _ => by kernel_rfl) (fun g14 w15 hb18 hF16 hC17 => ?_)
 have ho19 := own_fr ho8 hF16 (by simp)
 have ho20 := own_fr ho9 hF16 (by simp)
 have ho21 := own_fr ho10 hF16 (by simp)
 have ho22 := own_fr ho11 hF16 (by simp)
 have hf23 := svcsIn.fr hf12 hF16 (by simp)
 have hf24 := hf13.trans hF16 (by simp)
 refine WLd rfl (QXn (hK2 _ _ ?_))
 refine WCs (fun K25 hK26 => ?_)
 refine WC.drawC hC17 [] (by kernel_rfl) (fun w27 hF28 hC29 hS30 => ?_)
 have ho31 := own_fr ho19 hF28 (by simp)
 have ho32 := own_fr ho20 hF28 (by simp)
 have ho33 := own_fr ho21 hF28 (by simp)
 have ho34 := own_fr ho22 hF28 (by simp)
 have hf35 := svcsIn.fr hf23 hF28 (by simp)
 have hf36 := hf24.trans hF28 (by simp)
 refine WDp (NPt hN) 0 8 (.pointer (some ⟨p, 0, none⟩)) (by kernel_rfl) (fun _ => by kernel_rfl) hS30 ?_
 refine WDp (NPt hN) 1 9 (.pointer (some ⟨p, 0, none⟩)) (by kernel_rfl) (fun _ => by kernel_rfl) hS30 ?_
 refine WDp (NPt hN) 2 10 (.pointer (some ⟨p, 0, none⟩)) (by kernel_rfl) (fun _ => by kernel_rfl) hS30 ?_
 refine WDp (NPt hN) 3 11 (.pointer (some ⟨p, 2, none⟩)) (by kernel_rfl) (fun _ => by kernel_rfl) hS30 ?_
 refine WDl (NPt hN) 4 26 (.pointer (some ⟨p, 2, none⟩)) (.slice AS xs.length cS) 12 (by kernel_rfl) (by kernel_rfl) (fun _ hS_ => run_ld (Fr.has hS_ (hC29.get 0 rfl) (by simp)) rfl) hS30 ?_
 refine WDl (NPt hN) 5 52 (.pointer (some ⟨g3, 0, none⟩)) (.agg #[.int .u32 s.v.vip, .int .i64 s.v.proto, .int .i64 s.v.port, .slice s.a s.v.ends.length s.c]) 13 (by kernel_rfl) (by kernel_rfl) (fun _ hS_ => run_ld (Fr.has hS_ (hC29.get 1 rfl) (by simp)) rfl) hS30 ?_
 refine WD.call 6 (by kernel_rfl) rfl rfl rfl rfl rfl (by kernel_rfl) (BSFS_n AS xs.length cS xs s w27 (own_rd ho31 cellsS_len (by decide)) (own_count cellsS_len (by decide) ho31) (hssx_) (by omega)) ?_
 rintro _ w38 ⟨rfl, hF37⟩
 have hS40 := hS30.trans hF37 (by simp)
 refine ⟨_, rfl, hS40, ?_⟩
 have hC39 := hC29.call hF37
 have ho41 := own_fr ho31 hF37 (by simp)
 have ho42 := own_fr ho32 hF37 (by simp)
 have ho43 := own_fr ho33 hF37 (by simp)
 have ho44 := own_fr ho34 hF37 (by simp)
 have hf45 := svcsIn.fr hf35 hF37 (by simp)
 have hf46 := hf36.trans hF37 (by simp)
 refine WDp (NPt hN) 7 7 (.tuple #[.int .i64 (rankK kS (kV s.v) xs : Int), .bool (hasK kS (kV s.v) xs)]) (by kernel_rfl) (fun _ => by kernel_rfl) hS40 ?_
 refine WDp (NPt hN) 8 15 (.int .i64 (rankK kS (kV s.v) xs : Int)) (by kernel_rfl) (fun _ => by kernel_rfl) hS40 ?_
 refine WDp (NPt hN) 9 16 (.bool (hasK kS (kV s.v) xs)) (by kernel_rfl) (fun _ => by kernel_rfl) hS40 ?_
 refine WDp (NPt hN) 10 5 (.int .i64 (rankK kS (kV s.v) xs : Int)) (by kernel_rfl) (fun _ => by kernel_rfl) hS40 ?_
 refine WDp (NPt hN) 11 6 (.bool (hasK kS (kV s.v) xs)) (by kernel_rfl) (fun _ => by kernel_rfl) hS40 ?_
 refine WD.done (by kernel_rfl) ?_
 refine QXn (hK26 _ _ ?_)
 refine WCs (fun K47 hK48 => ?_)
 refine WCs (fun K49 hK50 => ?_)
 refine WCg (WLr 1 [(17, .pointer (some ⟨g3, 3, none⟩))] (fun _ => by kernel_rfl) ?_)
 refine WL.load 50 (.pointer (some ⟨g3, 3, none⟩)) (.slice s.a s.v.ends.length s.c) 18 (by kernel_rfl) (run_ld (hC39.get 1 rfl) rfl) ?_
 refine WLr 3 [(21, .bool (decide ((s.v.ends.length : Int) > 0))), (20, .bool (decide ((s.v.ends.length : Int) > 0))), (19, .int .i64 (s.v.ends.length : Int))] (fun _ => by kernel_rfl) ?_
 refine WLa 21 (decide ((s.v.ends.length : Int) > 0)) rfl (fun t51b => ?_) (fun t51b => ?_)
 ·
  have t51 : (0 : Int) < (s.v.ends.length : Int) := by have q_ := of_decide_eq_true t51b; omega
  refine WLr 4 [(25, .bool (!(hasK kS (kV s.v) xs))), (24, .bool (!(hasK kS (kV s.v) xs))), (23, .bool (!(hasK kS (kV s.v) xs))), (22, .bool (hasK kS (kV s.v) xs))] (fun _ => by kernel_rfl) ?_
  refine WLa 25 (!(hasK kS (kV s.v) xs)) rfl (fun t52b => ?_) (fun t52b => ?_)
  ·
   have t52 : (hasK kS (kV s.v) xs) = false := by first | (simpa only [Bool.not_eq_true', Bool.not_eq_false'] using t52b) | simpa using t52b
   refine WLr 4 [(29, .pointer (some ⟨p, 2, none⟩)), (28, .pointer (some ⟨p, 0, none⟩)), (27, .pointer (some ⟨p, 0, none⟩)), (26, .pointer (some ⟨p, 0, none⟩))] (fun _ => by kernel_rfl) ?_
   refine WL.load 26 (.pointer (some ⟨p, 2, none⟩)) (.slice AS xs.length cS) 30 (by kernel_rfl) (run_ld (hC39.get 0 rfl) rfl) ?_
   refine WLr 3 [(33, .bool (decide ((xs.length : Int) ≥ 32))), (32, .bool (decide ((xs.length : Int) ≥ 32))), (31, .int .i64 (xs.length : Int))] (fun _ => by kernel_rfl) (WLd rfl (QXn (hK50 _ _ ?_)))
   refine WCa 33 (decide ((xs.length : Int) ≥ 32)) rfl (fun t53b => ?_) (fun t53b => ?_)
   ·
    have t53 : (32 : Int) ≤ (xs.length : Int) := by have q_ := of_decide_eq_true t53b; omega
    refine WCt rfl ?_
    refine WCs (fun K54 hK55 => ?_)
    refine WCg (WLr 1 [(34, .iface 73 (.int .i64 5))] (fun _ => by kernel_rfl) ?_)
    refine WLc rfl rfl rfl rfl rfl (by kernel_rfl) (result_err 5 w38) ?_
    rintro _ w57 ⟨rfl, hF56⟩
    refine ⟨_, rfl, ?_⟩
    have hC58 := hC39.call hF56
    have ho59 := own_fr ho41 hF56 (by simp)
    have ho60 := own_fr ho42 hF56 (by simp)
    have ho61 := own_fr ho43 hF56 (by simp)
    have ho62 := own_fr ho44 hF56 (by simp)
    have hf63 := svcsIn.fr hf45 hF56 (by simp)
    have hf64 := hf46.trans hF56 (by simp)
    refine WLs (c' := #[.int .i64 5, .int .u32 0, .int .i64 0, .int .u32 0, .int .i64 0]) hC58 2 47 g14 0 (.agg #[.int .i64 5, .int .u32 0, .int .i64 0, .int .u32 0, .int .i64 0]) (by kernel_rfl) rfl (by kernel_rfl) (fun w65 hF67 hC68 => ?_)
    have ho69 := own_fr ho59 hF67 (hC58.apartM 0 2 rfl rfl)
    have ho70 := own_fr ho60 hF67 (hC58.apartM 1 2 rfl rfl)
    have ho71 := own_fr ho61 hF67 (hC58.apartM 2 2 rfl rfl)
    have ho72 := own_fr ho62 hF67 (hC58.apartM 3 2 rfl rfl)
    have hf73 := svcsIn.fr hf63 hF67 (hC58.apartM 4 2 rfl rfl)
    refine WLd rfl (QXn (hK55 _ _ ?_))
    refine WC.ret ?_
    refine QXr ?_
    refine (hret' _ _ (.agg #[.int .i64 5, .int .u32 0, .int .i64 0, .int .u32 0, .int .i64 0]) (fun a ha => ?_) ?_).1
    ·
     exact res_run ha ((ResR.cell rfl (run_ld (hC68.get 2 rfl) rfl) ResR.nil)) rfl
    clear hN hret hret' hK55 hK50 hK48 hK26 hK2
    have hC77 := Cx.pickM hC68 [0] [0, 1, 2, 3, 4] (by decide) rfl rfl
    obtain ⟨hT74, hfr75, hsub76⟩ := cfg_close (V := V) (xs := xs) hC77 ho69 ho70 ho71 ho72 hf73 hvals
    have hth_ : thereS V s.v = hasK kS (kV s.v) xs := by unfold thereS; rw [← hvals, hasK_map]
    have hc_ : 0 < s.v.ends.length ∧ thereS V s.v = false ∧ 32 ≤ V.svcs.length := ⟨by omega, by rw [hth_]; exact t52, by omega⟩
    have hR_ : svcR V s.v = errR 5 := by unfold svcR; rw [if_pos hc_]
    have hV_ : svcC V s.v = V := by unfold svcC; rw [if_pos hc_]
    rw [hR_, hV_]
    exact ⟨_, rfl, hfr75, hT74, hsub76⟩
   ·
    have t53 : (xs.length : Int) < 32 := by have q_ := of_decide_eq_false t53b; omega
    refine WCf rfl (WC.skip (QXn (hK48 _ _ ?_)))
    refine WCs (fun K78 hK79 => ?_)
    refine WCg (WLr 1 [(36, .pointer (some ⟨g3, 3, none⟩))] (fun _ => by kernel_rfl) ?_)
    refine WL.load 50 (.pointer (some ⟨g3, 3, none⟩)) (.slice s.a s.v.ends.length s.c) 37 (by kernel_rfl) (run_ld (hC39.get 1 rfl) rfl) ?_
    refine WLc rfl rfl rfl rfl rfl (by kernel_rfl) (CloneE_n s.a s.v.ends.length s.c s.v.ends w38 (Rd.fr hs.rd hf46) rfl hs.lim) ?_
    rintro _ w83 ⟨A80, c81, rfl, hF82, ho85⟩
    have hC84 := hC39.callN hF82 (own_ge ho85) (own_lt ho85)
    have ho86 := own_base (b' := 0) ho85 (fun _ _ => Nat.zero_le _)
    refine ⟨_, rfl, ?_⟩
    have ho87 := own_fr ho41 hF82 (by simp)
    have ho88 := own_fr ho42 hF82 (by simp)
    have ho89 := own_fr ho43 hF82 (by simp)
    have ho90 := own_fr ho44 hF82 (by simp)
    have hf91 := svcsIn.fr hf45 hF82 (by simp)
    have hf92 := hf46.trans hF82 (by simp)
    refine WLr 1 [(39, .pointer (some ⟨g3, 3, none⟩))] (fun _ => by kernel_rfl) ?_
    refine WLs (c' := #[.int .u32 s.v.vip, .int .i64 s.v.proto, .int .i64 s.v.port, .slice A80 s.v.ends.length c81]) hC84 1 50 g3 3 (.slice A80 s.v.ends.length c81) (by kernel_rfl) rfl (by kernel_rfl) (fun w93 hF95 hC96 => ?_)
    have ho97 := own_fr ho87 hF95 (hC84.apartM 0 1 rfl rfl)
    have ho98 := own_fr ho88 hF95 (hC84.apartM 1 1 rfl rfl)
    have ho99 := own_fr ho89 hF95 (hC84.apartM 2 1 rfl rfl)
    have ho100 := own_fr ho90 hF95 (hC84.apartM 3 1 rfl rfl)
    have hf101 := svcsIn.fr hf91 hF95 (hC84.apartM 4 1 rfl rfl)
    have ho102 := own_fr ho86 hF95 (hC84.apartM 5 1 rfl rfl)
    refine WLd rfl (QXn (hK79 _ _ ?_))
    refine WCs (fun K103 hK104 => ?_)
    refine WC.drawC hC96 (p :: blk (.slice AS xs.length cS)) (by kernel_rfl) (fun w105 hF106 hC107 hS108 => ?_)
    have ho109 := own_fr ho97 hF106 (by simp)
    have ho110 := own_fr ho98 hF106 (by simp)
    have ho111 := own_fr ho99 hF106 (by simp)
    have ho112 := own_fr ho100 hF106 (by simp)
    have hf113 := svcsIn.fr hf101 hF106 (by simp)
    have ho114 := own_fr ho102 hF106 (by simp)
    refine WDp (NPt hN) 0 41 (.pointer (some ⟨p, 0, none⟩)) (by kernel_rfl) (fun _ => by kernel_rfl) hS108 ?_
    refine WDp (NPt hN) 1 42 (.pointer (some ⟨p, 0, none⟩)) (by kernel_rfl) (fun _ => by kernel_rfl) hS108 ?_
    refine WDp (NPt hN) 2 43 (.pointer (some ⟨p, 0, none⟩)) (by kernel_rfl) (fun _ => by kernel_rfl) hS108 ?_
    refine WDp (NPt hN) 3 44 (.pointer (some ⟨p, 0, none⟩)) (by kernel_rfl) (fun _ => by kernel_rfl) hS108 ?_
    refine WDp (NPt hN) 4 45 (.pointer (some ⟨p, 2, none⟩)) (by kernel_rfl) (fun _ => by kernel_rfl) hS108 ?_
    refine WDp (NPt hN) 7 48 (.pointer (some ⟨g3, 3, none⟩)) (by kernel_rfl) (fun _ => by kernel_rfl) hS108 ?_
    refine WDl (NPt hN) 6 52 (.pointer (some ⟨g3, 0, none⟩)) (.agg #[.int .u32 s.v.vip, .int .i64 s.v.proto, .int .i64 s.v.port, .slice A80 s.v.ends.length c81]) 47 (by kernel_rfl) (by kernel_rfl) (fun _ hS_ => run_ld (Fr.has hS_ (hC107.get 1 rfl) (fun h_ => (List.mem_cons.1 h_).elim (hC107.ne 1 0 rfl rfl (by decide)) (hC107.notin 0 1 rfl rfl))) rfl) hS108 ?_
    refine WDl (NPt hN) 8 50 (.pointer (some ⟨g3, 3, none⟩)) (.slice A80 s.v.ends.length c81) 49 (by kernel_rfl) (by kernel_rfl) (fun _ hS_ => run_ld (Fr.has hS_ (hC107.get 1 rfl) (fun h_ => (List.mem_cons.1 h_).elim (hC107.ne 1 0 rfl rfl (by decide)) (hC107.notin 0 1 rfl rfl))) rfl) hS108 ?_
    refine WDp (NPt hN) 9 50 (.int .i64 (s.v.ends.length : Int)) (by kernel_rfl) (fun _ => by kernel_rfl) hS108 ?_
    refine WDp (NPt hN) 10 51 (.bool ((s.v.ends.length : Int) == 0)) (by kernel_rfl) (fun _ => by kernel_rfl) hS108 ?_
    refine WD.recast (show (.bool ((s.v.ends.length : Int) == 0) : Value) = .bool (decide (s.v.ends.length = 0)) from by congr 1; rw [Bool.eq_iff_iff]; simp) ?_
    refine WD.sem 5 (Instr.loadAt 26 (.pointer (some ⟨p, 2, none⟩))) 46 (.slice AS xs.length cS) (by kernel_rfl) (by kernel_rfl) (run_ld (hC107.get 0 rfl) rfl) hS108 ?_
    refine WD.call 11 (by kernel_rfl) rfl rfl rfl rfl rfl (by kernel_rfl) (putS_ct AS xs.length cS xs (⟨s.v, A80, c81⟩ : Svc) (decide (s.v.ends.length = 0)) w105 ho109 (hssx_) (by omega)) ?_
    rintro _ w118 ⟨v_, rfl, hF119, ho120, hsub121⟩
    have hC122 := hC107.callF 0 rfl hF119 hsub121 (own_lt ho120)
    obtain ⟨A115, c116, rfl, hle117⟩ := own_form ho120
    have hS123 := hS108.trans hF119 (fun x_ hx_ => .inl (List.mem_cons_of_mem _ hx_))
    refine ⟨_, rfl, hS123, ?_⟩
    have ho124 := own_fr ho110 hF119 (hC107.disj 1 0 rfl rfl (by decide))
    have ho125 := own_fr ho111 hF119 (hC107.disj 2 0 rfl rfl (by decide))
    have ho126 := own_fr ho112 hF119 (hC107.disj 3 0 rfl rfl (by decide))
    have hf127 := svcsIn.fr hf113 hF119 (hC107.disj 4 0 rfl rfl (by decide))
    have ho128 := own_fr ho114 hF119 (hC107.disj 5 0 rfl rfl (by decide))
    refine WDp (NPt hN) 12 40 (.tuple #[.slice A115 ((putK kS xs (⟨s.v, A80, c81⟩ : Svc) (decide (s.v.ends.length = 0))).length) c116, .bool (hasK kS (kV s.v) xs)]) (by kernel_rfl) (fun _ => by kernel_rfl) hS123 ?_
    refine WDp (NPt hN) 13 53 (.slice A115 ((putK kS xs (⟨s.v, A80, c81⟩ : Svc) (decide (s.v.ends.length = 0))).length) c116) (by kernel_rfl) (fun _ => by kernel_rfl) hS123 ?_
    refine WDp (NPt hN) 14 54 (.bool (hasK kS (kV s.v) xs)) (by kernel_rfl) (fun _ => by kernel_rfl) hS123 ?_
    refine WDp (NPt hN) 15 55 (.pointer (some ⟨p, 0, none⟩)) (by kernel_rfl) (fun _ => by kernel_rfl) hS123 ?_
    refine WDp (NPt hN) 16 56 (.pointer (some ⟨p, 0, none⟩)) (by kernel_rfl) (fun _ => by kernel_rfl) hS123 ?_
    refine WDp (NPt hN) 17 57 (.pointer (some ⟨p, 2, none⟩)) (by kernel_rfl) (fun _ => by kernel_rfl) hS123 ?_
    obtain ⟨w129, hr130, hF131, hC132⟩ := sto_run (c' := #[.int .i64 V.epoch, .int .i64 V.now, .slice A115 ((putK kS xs (⟨s.v, A80, c81⟩ : Svc) (decide (s.v.ends.length = 0))).length) c116, .slice AN V.snats.length cN, .slice AK V.sick.length cK, .slice AL V.leases.length cL]) Tryd.prog hC122 0 26 p 2 (.slice A115 ((putK kS xs (⟨s.v, A80, c81⟩ : Svc) (decide (s.v.ends.length = 0))).length) c116) rfl (by kernel_rfl)
    have hS133 := hS123.trans hF131 (by first | (simp; done) | (simp [*]; done) | (have q_ := hS123.size; simp; omega))
    refine WD.semU 18 (Instr.storeAt 26 (.pointer (some ⟨p, 2, none⟩)) (.slice A115 ((putK kS xs (⟨s.v, A80, c81⟩ : Svc) (decide (s.v.ends.length = 0))).length) c116)) (by kernel_rfl) (by kernel_rfl) hr130 hS133 ?_
    have ho134 := own_fr ho120 hF131 (hC122.apartM 0 0 rfl rfl)
    have ho135 := own_fr ho124 hF131 (hC122.apartM 1 0 rfl rfl)
    have ho136 := own_fr ho125 hF131 (hC122.apartM 2 0 rfl rfl)
    have ho137 := own_fr ho126 hF131 (hC122.apartM 3 0 rfl rfl)
    have hf138 := svcsIn.fr hf127 hF131 (hC122.apartM 4 0 rfl rfl)
    have ho139 := own_fr ho128 hF131 (hC122.apartM 5 0 rfl rfl)
    refine WDp (NPt hN) 19 6 (.bool (hasK kS (kV s.v) xs)) (by kernel_rfl) (fun _ => by kernel_rfl) hS133 ?_
    refine WD.done (by kernel_rfl) ?_
    refine QXn (hK104 _ _ ?_)
    refine WCs (fun K140 hK141 => ?_)
    refine WCs (fun K142 hK143 => ?_)
    refine WCg (WLr 1 [(58, .pointer (some ⟨g3, 3, none⟩))] (fun _ => by kernel_rfl) ?_)
    refine WL.load 50 (.pointer (some ⟨g3, 3, none⟩)) (.slice A80 s.v.ends.length c81) 59 (by kernel_rfl) (run_ld (hC132.get 1 rfl) rfl) ?_
    refine WLr 2 [(61, .bool ((s.v.ends.length : Int) == 0)), (60, .int .i64 (s.v.ends.length : Int))] (fun _ => by kernel_rfl) ?_
    refine WLt (show (.bool ((s.v.ends.length : Int) == 0) : Value) = .bool (decide (s.v.ends.length = 0)) from by congr 1; rw [Bool.eq_iff_iff]; simp) ?_
    refine WLr 1 [(62, .bool (decide (s.v.ends.length = 0)))] (fun _ => by kernel_rfl) ?_
    refine WLa 62 (decide (s.v.ends.length = 0)) rfl (fun t144b => ?_) (fun t144b => ?_)
    ·
     have t144 : s.v.ends.length = 0 := of_decide_eq_true t144b
     refine WLr 3 [(65, .bool (!(hasK kS (kV s.v) xs))), (64, .bool (!(hasK kS (kV s.v) xs))), (63, .bool (hasK kS (kV s.v) xs))] (fun _ => by kernel_rfl) (WLd rfl (QXn (hK143 _ _ ?_)))
     refine WC.know 65 (.bool (!(hasK kS (kV s.v) xs))) (.bool true) rfl (congrArg Value.bool (by exact t52b)) ?_
     refine WCt rfl ?_
     refine WCs (fun K145 hK146 => ?_)
     refine WCg (WLr 1 [(66, .iface 73 (.int .i64 6))] (fun _ => by kernel_rfl) ?_)
     refine WLc rfl rfl rfl rfl rfl (by kernel_rfl) (result_err 6 w129) ?_
     rintro _ w148 ⟨rfl, hF147⟩
     refine ⟨_, rfl, ?_⟩
     have hC149 := hC132.call hF147
     have ho150 := own_fr ho134 hF147 (by simp)
     have ho151 := own_fr ho135 hF147 (by simp)
     have ho152 := own_fr ho136 hF147 (by simp)
     have ho153 := own_fr ho137 hF147 (by simp)
     have hf154 := svcsIn.fr hf138 hF147 (by simp)
     have ho155 := own_fr ho139 hF147 (by simp)
     refine WLs (c' := #[.int .i64 6, .int .u32 0, .int .i64 0, .int .u32 0, .int .i64 0]) hC149 2 47 g14 0 (.agg #[.int .i64 6, .int .u32 0, .int .i64 0, .int .u32 0, .int .i64 0]) (by kernel_rfl) rfl (by kernel_rfl) (fun w156 hF158 hC159 => ?_)
     have ho160 := own_fr ho150 hF158 (hC149.apartM 0 2 rfl rfl)
     have ho161 := own_fr ho151 hF158 (hC149.apartM 1 2 rfl rfl)
     have ho162 := own_fr ho152 hF158 (hC149.apartM 2 2 rfl rfl)
     have ho163 := own_fr ho153 hF158 (hC149.apartM 3 2 rfl rfl)
     have hf164 := svcsIn.fr hf154 hF158 (hC149.apartM 4 2 rfl rfl)
     have ho165 := own_fr ho155 hF158 (hC149.apartM 5 2 rfl rfl)
     refine WLd rfl (QXn (hK146 _ _ ?_))
     refine WC.ret ?_
     refine QXr ?_
     refine (hret' _ _ (.agg #[.int .i64 6, .int .u32 0, .int .i64 0, .int .u32 0, .int .i64 0]) (fun a ha => ?_) ?_).1
     ·
      exact res_run ha ((ResR.cell rfl (run_ld (hC159.get 2 rfl) rfl) ResR.nil)) rfl
     clear hN hret hret' hK146 hK143 hK141 hK104 hK79 hK50 hK48 hK26 hK2
     have hth_ : thereS V s.v = hasK kS (kV s.v) xs := by unfold thereS; rw [← hvals, hasK_map]
     have hc_ : ¬ (0 < s.v.ends.length ∧ thereS V s.v = false ∧ 32 ≤ V.svcs.length) := fun q_ => by obtain ⟨q1_, q2_, q3_⟩ := q_; rw [hth_] at q2_; first | omega | (exact absurd q2_ (by rw [t52]; decide))
     have hV_ : svcC V s.v = { V with svcs := putK kV V.svcs s.v (decide (s.v.ends.length = 0)) } := by unfold svcC; rw [if_neg hc_]
     rw [hV_]
     have hsv_ : svcAt w156 (⟨s.v, A80, c81⟩ : Svc) := ⟨own_rd ho165 cellsE_len (by decide), hs.wfe, hs.vip, hs.proto, hs.port, hs.lim, own_le ho165⟩
     have hC170 := Cx_join hC159 4 5 rfl rfl (by decide)
     have hC169 := Cx.pickM hC170 [0] [0, 1, 2, 3, 4] (by decide) rfl rfl
     obtain ⟨hT166, hfr167, hsub168⟩ := cfg_close (V := { V with svcs := putK kV V.svcs s.v (decide (s.v.ends.length = 0)) }) (xs := putK kS xs (⟨s.v, A80, c81⟩ : Svc) (decide (s.v.ends.length = 0))) hC169 ho160 ho161 ho162 ho163 (hf164.put hssx_ hsv_) (by rw [putK_map, hvals])
     have hR_ : svcR V s.v = errR 6 := by unfold svcR; rw [if_neg hc_, if_pos ⟨by omega, by rw [hth_]; exact t52⟩]
     rw [hR_]
     exact ⟨_, rfl, hfr167, hT166, hsub168⟩
    ·
     have t144 : ¬ (s.v.ends.length = 0) := of_decide_eq_false t144b
     refine WLr 3 [(65, .bool false), (64, undef), (63, undef)] (fun _ => by kernel_rfl) (WLd rfl (QXn (hK143 _ _ ?_)))
     refine WCf rfl (WC.skip (QXn (hK141 _ _ ?_)))
     refine WCs (fun K171 hK172 => ?_)
     refine WCg (WLr 1 [(68, .agg #[.int .i64 0, .int .u32 0, .int .i64 0, .int .u32 0, .int .i64 0])] (fun _ => by kernel_rfl) ?_)
     refine WLs (c' := #[.int .i64 0, .int .u32 0, .int .i64 0, .int .u32 0, .int .i64 0]) hC132 2 47 g14 0 (.agg #[.int .i64 0, .int .u32 0, .int .i64 0, .int .u32 0, .int .i64 0]) (by kernel_rfl) rfl (by kernel_rfl) (fun w173 hF175 hC176 => ?_)
     have ho177 := own_fr ho134 hF175 (hC132.apartM 0 2 rfl rfl)
     have ho178 := own_fr ho135 hF175 (hC132.apartM 1 2 rfl rfl)
     have ho179 := own_fr ho136 hF175 (hC132.apartM 2 2 rfl rfl)
     have ho180 := own_fr ho137 hF175 (hC132.apartM 3 2 rfl rfl)
     have hf181 := svcsIn.fr hf138 hF175 (hC132.apartM 4 2 rfl rfl)
     have ho182 := own_fr ho139 hF175 (hC132.apartM 5 2 rfl rfl)
     refine WLd rfl (QXn (hK172 _ _ ?_))
     refine WC.ret ?_
     refine (hret' _ _ (.agg #[.int .i64 0, .int .u32 0, .int .i64 0, .int .u32 0, .int .i64 0]) (fun a ha => ?_) ?_).1
     ·
      exact res_run ha ((ResR.cell rfl (run_ld (hC176.get 2 rfl) rfl) ResR.nil)) rfl
     clear hN hret hret' hK172 hK143 hK141 hK104 hK79 hK50 hK48 hK26 hK2
     have hth_ : thereS V s.v = hasK kS (kV s.v) xs := by unfold thereS; rw [← hvals, hasK_map]
     have hc_ : ¬ (0 < s.v.ends.length ∧ thereS V s.v = false ∧ 32 ≤ V.svcs.length) := fun q_ => by obtain ⟨q1_, q2_, q3_⟩ := q_; rw [hth_] at q2_; first | omega | (exact absurd q2_ (by rw [t52]; decide))
     have hV_ : svcC V s.v = { V with svcs := putK kV V.svcs s.v (decide (s.v.ends.length = 0)) } := by unfold svcC; rw [if_neg hc_]
     rw [hV_]
     have hsv_ : svcAt w173 (⟨s.v, A80, c81⟩ : Svc) := ⟨own_rd ho182 cellsE_len (by decide), hs.wfe, hs.vip, hs.proto, hs.port, hs.lim, own_le ho182⟩
     have hC187 := Cx_join hC176 4 5 rfl rfl (by decide)
     have hC186 := Cx.pickM hC187 [0] [0, 1, 2, 3, 4] (by decide) rfl rfl
     obtain ⟨hT183, hfr184, hsub185⟩ := cfg_close (V := { V with svcs := putK kV V.svcs s.v (decide (s.v.ends.length = 0)) }) (xs := putK kS xs (⟨s.v, A80, c81⟩ : Svc) (decide (s.v.ends.length = 0))) hC186 ho177 ho178 ho179 ho180 (hf181.put hssx_ hsv_) (by rw [putK_map, hvals])
     have hR_ : svcR V s.v = okR := by unfold svcR; rw [if_neg hc_, if_neg (fun q_ => by obtain ⟨q1_, q2_⟩ := q_; rw [hth_] at q2_; first | omega | (exact absurd q2_ (by rw [t52]; decide)))]
     rw [hR_]
     exact ⟨_, rfl, hfr184, hT183, hsub185⟩
  ·
   have t52 : (hasK kS (kV s.v) xs) = true := by first | (simpa only [Bool.not_eq_true', Bool.not_eq_false'] using t52b) | simpa using t52b
   refine WLr 8 [(33, .bool false), (32, undef), (31, undef), (30, undef), (29, undef), (28, undef), (27, undef), (26, undef)] (fun _ => by kernel_rfl) (WLd rfl (QXn (hK50 _ _ ?_)))
   refine WCf rfl (WC.skip (QXn (hK48 _ _ ?_)))
   refine WCs (fun K188 hK189 => ?_)
   refine WCg (WLr 1 [(36, .pointer (some ⟨g3, 3, none⟩))] (fun _ => by kernel_rfl) ?_)
   refine WL.load 50 (.pointer (some ⟨g3, 3, none⟩)) (.slice s.a s.v.ends.length s.c) 37 (by kernel_rfl) (run_ld (hC39.get 1 rfl) rfl) ?_
   refine WLc rfl rfl rfl rfl rfl (by kernel_rfl) (CloneE_n s.a s.v.ends.length s.c s.v.ends w38 (Rd.fr hs.rd hf46) rfl hs.lim) ?_
   rintro _ w193 ⟨A190, c191, rfl, hF192, ho195⟩
   have hC194 := hC39.callN hF192 (own_ge ho195) (own_lt ho195)
   have ho196 := own_base (b' := 0) ho195 (fun _ _ => Nat.zero_le _)
   refine ⟨_, rfl, ?_⟩
   have ho197 := own_fr ho41 hF192 (by simp)
   have ho198 := own_fr ho42 hF192 (by simp)
   have ho199 := own_fr ho43 hF192 (by simp)
   have ho200 := own_fr ho44 hF192 (by simp)
   have hf201 := svcsIn.fr hf45 hF192 (by simp)
   have hf202 := hf46.trans hF192 (by simp)
   refine WLr 1 [(39, .pointer (some ⟨g3, 3, none⟩))] (fun _ => by kernel_rfl) ?_
   refine WLs (c' := #[.int .u32 s.v.vip, .int .i64 s.v.proto, .int .i64 s.v.port, .slice A190 s.v.ends.length c191]) hC194 1 50 g3 3 (.slice A190 s.v.ends.length c191) (by kernel_rfl) rfl (by kernel_rfl) (fun w203 hF205 hC206 => ?_)
   have ho207 := own_fr ho197 hF205 (hC194.apartM 0 1 rfl rfl)
   have ho208 := own_fr ho198 hF205 (hC194.apartM 1 1 rfl rfl)
   have ho209 := own_fr ho199 hF205 (hC194.apartM 2 1 rfl rfl)
   have ho210 := own_fr ho200 hF205 (hC194.apartM 3 1 rfl rfl)
   have hf211 := svcsIn.fr hf201 hF205 (hC194.apartM 4 1 rfl rfl)
   have ho212 := own_fr ho196 hF205 (hC194.apartM 5 1 rfl rfl)
   refine WLd rfl (QXn (hK189 _ _ ?_))
   refine WCs (fun K213 hK214 => ?_)
   refine WC.drawC hC206 (p :: blk (.slice AS xs.length cS)) (by kernel_rfl) (fun w215 hF216 hC217 hS218 => ?_)
   have ho219 := own_fr ho207 hF216 (by simp)
   have ho220 := own_fr ho208 hF216 (by simp)
   have ho221 := own_fr ho209 hF216 (by simp)
   have ho222 := own_fr ho210 hF216 (by simp)
   have hf223 := svcsIn.fr hf211 hF216 (by simp)
   have ho224 := own_fr ho212 hF216 (by simp)
   refine WDp (NPt hN) 0 41 (.pointer (some ⟨p, 0, none⟩)) (by kernel_rfl) (fun _ => by kernel_rfl) hS218 ?_
   refine WDp (NPt hN) 1 42 (.pointer (some ⟨p, 0, none⟩)) (by kernel_rfl) (fun _ => by kernel_rfl) hS218 ?_
   refine WDp (NPt hN) 2 43 (.pointer (some ⟨p, 0, none⟩)) (by kernel_rfl) (fun _ => by kernel_rfl) hS218 ?_
   refine WDp (NPt hN) 3 44 (.pointer (some ⟨p, 0, none⟩)) (by kernel_rfl) (fun _ => by kernel_rfl) hS218 ?_
   refine WDp (NPt hN) 4 45 (.pointer (some ⟨p, 2, none⟩)) (by kernel_rfl) (fun _ => by kernel_rfl) hS218 ?_
   refine WDp (NPt hN) 7 48 (.pointer (some ⟨g3, 3, none⟩)) (by kernel_rfl) (fun _ => by kernel_rfl) hS218 ?_
   refine WDl (NPt hN) 6 52 (.pointer (some ⟨g3, 0, none⟩)) (.agg #[.int .u32 s.v.vip, .int .i64 s.v.proto, .int .i64 s.v.port, .slice A190 s.v.ends.length c191]) 47 (by kernel_rfl) (by kernel_rfl) (fun _ hS_ => run_ld (Fr.has hS_ (hC217.get 1 rfl) (fun h_ => (List.mem_cons.1 h_).elim (hC217.ne 1 0 rfl rfl (by decide)) (hC217.notin 0 1 rfl rfl))) rfl) hS218 ?_
   refine WDl (NPt hN) 8 50 (.pointer (some ⟨g3, 3, none⟩)) (.slice A190 s.v.ends.length c191) 49 (by kernel_rfl) (by kernel_rfl) (fun _ hS_ => run_ld (Fr.has hS_ (hC217.get 1 rfl) (fun h_ => (List.mem_cons.1 h_).elim (hC217.ne 1 0 rfl rfl (by decide)) (hC217.notin 0 1 rfl rfl))) rfl) hS218 ?_
   refine WDp (NPt hN) 9 50 (.int .i64 (s.v.ends.length : Int)) (by kernel_rfl) (fun _ => by kernel_rfl) hS218 ?_
   refine WDp (NPt hN) 10 51 (.bool ((s.v.ends.length : Int) == 0)) (by kernel_rfl) (fun _ => by kernel_rfl) hS218 ?_
   refine WD.recast (show (.bool ((s.v.ends.length : Int) == 0) : Value) = .bool (decide (s.v.ends.length = 0)) from by congr 1; rw [Bool.eq_iff_iff]; simp) ?_
   refine WD.sem 5 (Instr.loadAt 26 (.pointer (some ⟨p, 2, none⟩))) 46 (.slice AS xs.length cS) (by kernel_rfl) (by kernel_rfl) (run_ld (hC217.get 0 rfl) rfl) hS218 ?_
   refine WD.call 11 (by kernel_rfl) rfl rfl rfl rfl rfl (by kernel_rfl) (putS_ct AS xs.length cS xs (⟨s.v, A190, c191⟩ : Svc) (decide (s.v.ends.length = 0)) w215 ho219 (hssx_) (by omega)) ?_
   rintro _ w228 ⟨v_, rfl, hF229, ho230, hsub231⟩
   have hC232 := hC217.callF 0 rfl hF229 hsub231 (own_lt ho230)
   obtain ⟨A225, c226, rfl, hle227⟩ := own_form ho230
   have hS233 := hS218.trans hF229 (fun x_ hx_ => .inl (List.mem_cons_of_mem _ hx_))
   refine ⟨_, rfl, hS233, ?_⟩
   have ho234 := own_fr ho220 hF229 (hC217.disj 1 0 rfl rfl (by decide))
   have ho235 := own_fr ho221 hF229 (hC217.disj 2 0 rfl rfl (by decide))
   have ho236 := own_fr ho222 hF229 (hC217.disj 3 0 rfl rfl (by decide))
   have hf237 := svcsIn.fr hf223 hF229 (hC217.disj 4 0 rfl rfl (by decide))
   have ho238 := own_fr ho224 hF229 (hC217.disj 5 0 rfl rfl (by decide))
   refine WDp (NPt hN) 12 40 (.tuple #[.slice A225 ((putK kS xs (⟨s.v, A190, c191⟩ : Svc) (decide (s.v.ends.length = 0))).length) c226, .bool (hasK kS (kV s.v) xs)]) (by kernel_rfl) (fun _ => by kernel_rfl) hS233 ?_
   refine WDp (NPt hN) 13 53 (.slice A225 ((putK kS xs (⟨s.v, A190, c191⟩ : Svc) (decide (s.v.ends.length = 0))).length) c226) (by kernel_rfl) (fun _ => by kernel_rfl) hS233 ?_
   refine WDp (NPt hN) 14 54 (.bool (hasK kS (kV s.v) xs)) (by kernel_rfl) (fun _ => by kernel_rfl) hS233 ?_
   refine WDp (NPt hN) 15 55 (.pointer (some ⟨p, 0, none⟩)) (by kernel_rfl) (fun _ => by kernel_rfl) hS233 ?_
   refine WDp (NPt hN) 16 56 (.pointer (some ⟨p, 0, none⟩)) (by kernel_rfl) (fun _ => by kernel_rfl) hS233 ?_
   refine WDp (NPt hN) 17 57 (.pointer (some ⟨p, 2, none⟩)) (by kernel_rfl) (fun _ => by kernel_rfl) hS233 ?_
   obtain ⟨w239, hr240, hF241, hC242⟩ := sto_run (c' := #[.int .i64 V.epoch, .int .i64 V.now, .slice A225 ((putK kS xs (⟨s.v, A190, c191⟩ : Svc) (decide (s.v.ends.length = 0))).length) c226, .slice AN V.snats.length cN, .slice AK V.sick.length cK, .slice AL V.leases.length cL]) Tryd.prog hC232 0 26 p 2 (.slice A225 ((putK kS xs (⟨s.v, A190, c191⟩ : Svc) (decide (s.v.ends.length = 0))).length) c226) rfl (by kernel_rfl)
   have hS243 := hS233.trans hF241 (by first | (simp; done) | (simp [*]; done) | (have q_ := hS233.size; simp; omega))
   refine WD.semU 18 (Instr.storeAt 26 (.pointer (some ⟨p, 2, none⟩)) (.slice A225 ((putK kS xs (⟨s.v, A190, c191⟩ : Svc) (decide (s.v.ends.length = 0))).length) c226)) (by kernel_rfl) (by kernel_rfl) hr240 hS243 ?_
   have ho244 := own_fr ho230 hF241 (hC232.apartM 0 0 rfl rfl)
   have ho245 := own_fr ho234 hF241 (hC232.apartM 1 0 rfl rfl)
   have ho246 := own_fr ho235 hF241 (hC232.apartM 2 0 rfl rfl)
   have ho247 := own_fr ho236 hF241 (hC232.apartM 3 0 rfl rfl)
   have hf248 := svcsIn.fr hf237 hF241 (hC232.apartM 4 0 rfl rfl)
   have ho249 := own_fr ho238 hF241 (hC232.apartM 5 0 rfl rfl)
   refine WDp (NPt hN) 19 6 (.bool (hasK kS (kV s.v) xs)) (by kernel_rfl) (fun _ => by kernel_rfl) hS243 ?_
   refine WD.done (by kernel_rfl) ?_
   refine QXn (hK214 _ _ ?_)
   refine WCs (fun K250 hK251 => ?_)
   refine WCs (fun K252 hK253 => ?_)
   refine WCg (WLr 1 [(58, .pointer (some ⟨g3, 3, none⟩))] (fun _ => by kernel_rfl) ?_)
   refine WL.load 50 (.pointer (some ⟨g3, 3, none⟩)) (.slice A190 s.v.ends.length c191) 59 (by kernel_rfl) (run_ld (hC242.get 1 rfl) rfl) ?_
   refine WLr 2 [(61, .bool ((s.v.ends.length : Int) == 0)), (60, .int .i64 (s.v.ends.length : Int))] (fun _ => by kernel_rfl) ?_
   refine WLt (show (.bool ((s.v.ends.length : Int) == 0) : Value) = .bool (decide (s.v.ends.length = 0)) from by congr 1; rw [Bool.eq_iff_iff]; simp) ?_
   refine WLr 1 [(62, .bool (decide (s.v.ends.length = 0)))] (fun _ => by kernel_rfl) ?_
   refine WLa 62 (decide (s.v.ends.length = 0)) rfl (fun t254b => ?_) (fun t254b => ?_)
   ·
    have t254 : s.v.ends.length = 0 := of_decide_eq_true t254b
    refine WLr 3 [(65, .bool (!(hasK kS (kV s.v) xs))), (64, .bool (!(hasK kS (kV s.v) xs))), (63, .bool (hasK kS (kV s.v) xs))] (fun _ => by kernel_rfl) (WLd rfl (QXn (hK253 _ _ ?_)))
    refine WC.know 65 (.bool (!(hasK kS (kV s.v) xs))) (.bool false) rfl (congrArg Value.bool (by exact t52b)) ?_
    refine WCf rfl (WC.skip (QXn (hK251 _ _ ?_)))
    refine WCs (fun K255 hK256 => ?_)
    refine WCg (WLr 1 [(68, .agg #[.int .i64 0, .int .u32 0, .int .i64 0, .int .u32 0, .int .i64 0])] (fun _ => by kernel_rfl) ?_)
    refine WLs (c' := #[.int .i64 0, .int .u32 0, .int .i64 0, .int .u32 0, .int .i64 0]) hC242 2 47 g14 0 (.agg #[.int .i64 0, .int .u32 0, .int .i64 0, .int .u32 0, .int .i64 0]) (by kernel_rfl) rfl (by kernel_rfl) (fun w257 hF259 hC260 => ?_)
    have ho261 := own_fr ho244 hF259 (hC242.apartM 0 2 rfl rfl)
    have ho262 := own_fr ho245 hF259 (hC242.apartM 1 2 rfl rfl)
    have ho263 := own_fr ho246 hF259 (hC242.apartM 2 2 rfl rfl)
    have ho264 := own_fr ho247 hF259 (hC242.apartM 3 2 rfl rfl)
    have hf265 := svcsIn.fr hf248 hF259 (hC242.apartM 4 2 rfl rfl)
    have ho266 := own_fr ho249 hF259 (hC242.apartM 5 2 rfl rfl)
    refine WLd rfl (QXn (hK256 _ _ ?_))
    refine WC.ret ?_
    refine (hret' _ _ (.agg #[.int .i64 0, .int .u32 0, .int .i64 0, .int .u32 0, .int .i64 0]) (fun a ha => ?_) ?_).1
    ·
     exact res_run ha ((ResR.cell rfl (run_ld (hC260.get 2 rfl) rfl) ResR.nil)) rfl
    clear hN hret hret' hK256 hK253 hK251 hK214 hK189 hK50 hK48 hK26 hK2
    have hth_ : thereS V s.v = hasK kS (kV s.v) xs := by unfold thereS; rw [← hvals, hasK_map]
    have hc_ : ¬ (0 < s.v.ends.length ∧ thereS V s.v = false ∧ 32 ≤ V.svcs.length) := fun q_ => by obtain ⟨q1_, q2_, q3_⟩ := q_; rw [hth_] at q2_; first | omega | (exact absurd q2_ (by rw [t52]; decide))
    have hV_ : svcC V s.v = { V with svcs := putK kV V.svcs s.v (decide (s.v.ends.length = 0)) } := by unfold svcC; rw [if_neg hc_]
    rw [hV_]
    have hsv_ : svcAt w257 (⟨s.v, A190, c191⟩ : Svc) := ⟨own_rd ho266 cellsE_len (by decide), hs.wfe, hs.vip, hs.proto, hs.port, hs.lim, own_le ho266⟩
    have hC271 := Cx_join hC260 4 5 rfl rfl (by decide)
    have hC270 := Cx.pickM hC271 [0] [0, 1, 2, 3, 4] (by decide) rfl rfl
    obtain ⟨hT267, hfr268, hsub269⟩ := cfg_close (V := { V with svcs := putK kV V.svcs s.v (decide (s.v.ends.length = 0)) }) (xs := putK kS xs (⟨s.v, A190, c191⟩ : Svc) (decide (s.v.ends.length = 0))) hC270 ho261 ho262 ho263 ho264 (hf265.put hssx_ hsv_) (by rw [putK_map, hvals])
    have hR_ : svcR V s.v = okR := by unfold svcR; rw [if_neg hc_, if_neg (fun q_ => by obtain ⟨q1_, q2_⟩ := q_; rw [hth_] at q2_; first | omega | (exact absurd q2_ (by rw [t52]; decide)))]
    rw [hR_]
    exact ⟨_, rfl, hfr268, hT267, hsub269⟩
   ·
    have t254 : ¬ (s.v.ends.length = 0) := of_decide_eq_false t254b
    refine WLr 3 [(65, .bool false), (64, undef), (63, undef)] (fun _ => by kernel_rfl) (WLd rfl (QXn (hK253 _ _ ?_)))
    refine WCf rfl (WC.skip (QXn (hK251 _ _ ?_)))
    refine WCs (fun K272 hK273 => ?_)
    refine WCg (WLr 1 [(68, .agg #[.int .i64 0, .int .u32 0, .int .i64 0, .int .u32 0, .int .i64 0])] (fun _ => by kernel_rfl) ?_)
    refine WLs (c' := #[.int .i64 0, .int .u32 0, .int .i64 0, .int .u32 0, .int .i64 0]) hC242 2 47 g14 0 (.agg #[.int .i64 0, .int .u32 0, .int .i64 0, .int .u32 0, .int .i64 0]) (by kernel_rfl) rfl (by kernel_rfl) (fun w274 hF276 hC277 => ?_)
    have ho278 := own_fr ho244 hF276 (hC242.apartM 0 2 rfl rfl)
    have ho279 := own_fr ho245 hF276 (hC242.apartM 1 2 rfl rfl)
    have ho280 := own_fr ho246 hF276 (hC242.apartM 2 2 rfl rfl)
    have ho281 := own_fr ho247 hF276 (hC242.apartM 3 2 rfl rfl)
    have hf282 := svcsIn.fr hf248 hF276 (hC242.apartM 4 2 rfl rfl)
    have ho283 := own_fr ho249 hF276 (hC242.apartM 5 2 rfl rfl)
    refine WLd rfl (QXn (hK273 _ _ ?_))
    refine WC.ret ?_
    refine (hret' _ _ (.agg #[.int .i64 0, .int .u32 0, .int .i64 0, .int .u32 0, .int .i64 0]) (fun a ha => ?_) ?_).1
    ·
     exact res_run ha ((ResR.cell rfl (run_ld (hC277.get 2 rfl) rfl) ResR.nil)) rfl
    clear hN hret hret' hK273 hK253 hK251 hK214 hK189 hK50 hK48 hK26 hK2
    have hth_ : thereS V s.v = hasK kS (kV s.v) xs := by unfold thereS; rw [← hvals, hasK_map]
    have hc_ : ¬ (0 < s.v.ends.length ∧ thereS V s.v = false ∧ 32 ≤ V.svcs.length) := fun q_ => by obtain ⟨q1_, q2_, q3_⟩ := q_; rw [hth_] at q2_; first | omega | (exact absurd q2_ (by rw [t52]; decide))
    have hV_ : svcC V s.v = { V with svcs := putK kV V.svcs s.v (decide (s.v.ends.length = 0)) } := by unfold svcC; rw [if_neg hc_]
    rw [hV_]
    have hsv_ : svcAt w274 (⟨s.v, A190, c191⟩ : Svc) := ⟨own_rd ho283 cellsE_len (by decide), hs.wfe, hs.vip, hs.proto, hs.port, hs.lim, own_le ho283⟩
    have hC288 := Cx_join hC277 4 5 rfl rfl (by decide)
    have hC287 := Cx.pickM hC288 [0] [0, 1, 2, 3, 4] (by decide) rfl rfl
    obtain ⟨hT284, hfr285, hsub286⟩ := cfg_close (V := { V with svcs := putK kV V.svcs s.v (decide (s.v.ends.length = 0)) }) (xs := putK kS xs (⟨s.v, A190, c191⟩ : Svc) (decide (s.v.ends.length = 0))) hC287 ho278 ho279 ho280 ho281 (hf282.put hssx_ hsv_) (by rw [putK_map, hvals])
    have hR_ : svcR V s.v = okR := by unfold svcR; rw [if_neg hc_, if_neg (fun q_ => by obtain ⟨q1_, q2_⟩ := q_; rw [hth_] at q2_; first | omega | (exact absurd q2_ (by rw [t52]; decide)))]
    rw [hR_]
    exact ⟨_, rfl, hfr285, hT284, hsub286⟩
 ·
  have t51 : (s.v.ends.length : Int) ≤ 0 := by have q_ := of_decide_eq_false t51b; omega
  refine WLr 12 [(33, .bool false), (32, undef), (31, undef), (30, undef), (29, undef), (28, undef), (27, undef), (26, undef), (25, .bool false), (24, .bool false), (23, undef), (22, undef)] (fun _ => by kernel_rfl) (WLd rfl (QXn (hK50 _ _ ?_)))
  refine WCf rfl (WC.skip (QXn (hK48 _ _ ?_)))
  refine WCs (fun K289 hK290 => ?_)
  refine WCg (WLr 1 [(36, .pointer (some ⟨g3, 3, none⟩))] (fun _ => by kernel_rfl) ?_)
  refine WL.load 50 (.pointer (some ⟨g3, 3, none⟩)) (.slice s.a s.v.ends.length s.c) 37 (by kernel_rfl) (run_ld (hC39.get 1 rfl) rfl) ?_
  refine WLc rfl rfl rfl rfl rfl (by kernel_rfl) (CloneE_n s.a s.v.ends.length s.c s.v.ends w38 (Rd.fr hs.rd hf46) rfl hs.lim) ?_
  rintro _ w294 ⟨A291, c292, rfl, hF293, ho296⟩
  have hC295 := hC39.callN hF293 (own_ge ho296) (own_lt ho296)
  have ho297 := own_base (b' := 0) ho296 (fun _ _ => Nat.zero_le _)
  refine ⟨_, rfl, ?_⟩
  have ho298 := own_fr ho41 hF293 (by simp)
  have ho299 := own_fr ho42 hF293 (by simp)
  have ho300 := own_fr ho43 hF293 (by simp)
  have ho301 := own_fr ho44 hF293 (by simp)
  have hf302 := svcsIn.fr hf45 hF293 (by simp)
  have hf303 := hf46.trans hF293 (by simp)
  refine WLr 1 [(39, .pointer (some ⟨g3, 3, none⟩))] (fun _ => by kernel_rfl) ?_
  refine WLs (c' := #[.int .u32 s.v.vip, .int .i64 s.v.proto, .int .i64 s.v.port, .slice A291 s.v.ends.length c292]) hC295 1 50 g3 3 (.slice A291 s.v.ends.length c292) (by kernel_rfl) rfl (by kernel_rfl) (fun w304 hF306 hC307 => ?_)
  have ho308 := own_fr ho298 hF306 (hC295.apartM 0 1 rfl rfl)
  have ho309 := own_fr ho299 hF306 (hC295.apartM 1 1 rfl rfl)
  have ho310 := own_fr ho300 hF306 (hC295.apartM 2 1 rfl rfl)
  have ho311 := own_fr ho301 hF306 (hC295.apartM 3 1 rfl rfl)
  have hf312 := svcsIn.fr hf302 hF306 (hC295.apartM 4 1 rfl rfl)
  have ho313 := own_fr ho297 hF306 (hC295.apartM 5 1 rfl rfl)
  refine WLd rfl (QXn (hK290 _ _ ?_))
  refine WCs (fun K314 hK315 => ?_)
  refine WC.drawC hC307 (p :: blk (.slice AS xs.length cS)) (by kernel_rfl) (fun w316 hF317 hC318 hS319 => ?_)
  have ho320 := own_fr ho308 hF317 (by simp)
  have ho321 := own_fr ho309 hF317 (by simp)
  have ho322 := own_fr ho310 hF317 (by simp)
  have ho323 := own_fr ho311 hF317 (by simp)
  have hf324 := svcsIn.fr hf312 hF317 (by simp)
  have ho325 := own_fr ho313 hF317 (by simp)
  refine WDp (NPt hN) 0 41 (.pointer (some ⟨p, 0, none⟩)) (by kernel_rfl) (fun _ => by kernel_rfl) hS319 ?_
  refine WDp (NPt hN) 1 42 (.pointer (some ⟨p, 0, none⟩)) (by kernel_rfl) (fun _ => by kernel_rfl) hS319 ?_
  refine WDp (NPt hN) 2 43 (.pointer (some ⟨p, 0, none⟩)) (by kernel_rfl) (fun _ => by kernel_rfl) hS319 ?_
  refine WDp (NPt hN) 3 44 (.pointer (some ⟨p, 0, none⟩)) (by kernel_rfl) (fun _ => by kernel_rfl) hS319 ?_
  refine WDp (NPt hN) 4 45 (.pointer (some ⟨p, 2, none⟩)) (by kernel_rfl) (fun _ => by kernel_rfl) hS319 ?_
  refine WDp (NPt hN) 7 48 (.pointer (some ⟨g3, 3, none⟩)) (by kernel_rfl) (fun _ => by kernel_rfl) hS319 ?_
  refine WDl (NPt hN) 6 52 (.pointer (some ⟨g3, 0, none⟩)) (.agg #[.int .u32 s.v.vip, .int .i64 s.v.proto, .int .i64 s.v.port, .slice A291 s.v.ends.length c292]) 47 (by kernel_rfl) (by kernel_rfl) (fun _ hS_ => run_ld (Fr.has hS_ (hC318.get 1 rfl) (fun h_ => (List.mem_cons.1 h_).elim (hC318.ne 1 0 rfl rfl (by decide)) (hC318.notin 0 1 rfl rfl))) rfl) hS319 ?_
  refine WDl (NPt hN) 8 50 (.pointer (some ⟨g3, 3, none⟩)) (.slice A291 s.v.ends.length c292) 49 (by kernel_rfl) (by kernel_rfl) (fun _ hS_ => run_ld (Fr.has hS_ (hC318.get 1 rfl) (fun h_ => (List.mem_cons.1 h_).elim (hC318.ne 1 0 rfl rfl (by decide)) (hC318.notin 0 1 rfl rfl))) rfl) hS319 ?_
  refine WDp (NPt hN) 9 50 (.int .i64 (s.v.ends.length : Int)) (by kernel_rfl) (fun _ => by kernel_rfl) hS319 ?_
  refine WDp (NPt hN) 10 51 (.bool ((s.v.ends.length : Int) == 0)) (by kernel_rfl) (fun _ => by kernel_rfl) hS319 ?_
  refine WD.recast (show (.bool ((s.v.ends.length : Int) == 0) : Value) = .bool (decide (s.v.ends.length = 0)) from by congr 1; rw [Bool.eq_iff_iff]; simp) ?_
  refine WD.sem 5 (Instr.loadAt 26 (.pointer (some ⟨p, 2, none⟩))) 46 (.slice AS xs.length cS) (by kernel_rfl) (by kernel_rfl) (run_ld (hC318.get 0 rfl) rfl) hS319 ?_
  refine WD.call 11 (by kernel_rfl) rfl rfl rfl rfl rfl (by kernel_rfl) (putS_ct AS xs.length cS xs (⟨s.v, A291, c292⟩ : Svc) (decide (s.v.ends.length = 0)) w316 ho320 (hssx_) (by omega)) ?_
  rintro _ w329 ⟨v_, rfl, hF330, ho331, hsub332⟩
  have hC333 := hC318.callF 0 rfl hF330 hsub332 (own_lt ho331)
  obtain ⟨A326, c327, rfl, hle328⟩ := own_form ho331
  have hS334 := hS319.trans hF330 (fun x_ hx_ => .inl (List.mem_cons_of_mem _ hx_))
  refine ⟨_, rfl, hS334, ?_⟩
  have ho335 := own_fr ho321 hF330 (hC318.disj 1 0 rfl rfl (by decide))
  have ho336 := own_fr ho322 hF330 (hC318.disj 2 0 rfl rfl (by decide))
  have ho337 := own_fr ho323 hF330 (hC318.disj 3 0 rfl rfl (by decide))
  have hf338 := svcsIn.fr hf324 hF330 (hC318.disj 4 0 rfl rfl (by decide))
  have ho339 := own_fr ho325 hF330 (hC318.disj 5 0 rfl rfl (by decide))
  refine WDp (NPt hN) 12 40 (.tuple #[.slice A326 ((putK kS xs (⟨s.v, A291, c292⟩ : Svc) (decide (s.v.ends.length = 0))).length) c327, .bool (hasK kS (kV s.v) xs)]) (by kernel_rfl) (fun _ => by kernel_rfl) hS334 ?_
  refine WDp (NPt hN) 13 53 (.slice A326 ((putK kS xs (⟨s.v, A291, c292⟩ : Svc) (decide (s.v.ends.length = 0))).length) c327) (by kernel_rfl) (fun _ => by kernel_rfl) hS334 ?_
  refine WDp (NPt hN) 14 54 (.bool (hasK kS (kV s.v) xs)) (by kernel_rfl) (fun _ => by kernel_rfl) hS334 ?_
  refine WDp (NPt hN) 15 55 (.pointer (some ⟨p, 0, none⟩)) (by kernel_rfl) (fun _ => by kernel_rfl) hS334 ?_
  refine WDp (NPt hN) 16 56 (.pointer (some ⟨p, 0, none⟩)) (by kernel_rfl) (fun _ => by kernel_rfl) hS334 ?_
  refine WDp (NPt hN) 17 57 (.pointer (some ⟨p, 2, none⟩)) (by kernel_rfl) (fun _ => by kernel_rfl) hS334 ?_
  obtain ⟨w340, hr341, hF342, hC343⟩ := sto_run (c' := #[.int .i64 V.epoch, .int .i64 V.now, .slice A326 ((putK kS xs (⟨s.v, A291, c292⟩ : Svc) (decide (s.v.ends.length = 0))).length) c327, .slice AN V.snats.length cN, .slice AK V.sick.length cK, .slice AL V.leases.length cL]) Tryd.prog hC333 0 26 p 2 (.slice A326 ((putK kS xs (⟨s.v, A291, c292⟩ : Svc) (decide (s.v.ends.length = 0))).length) c327) rfl (by kernel_rfl)
  have hS344 := hS334.trans hF342 (by first | (simp; done) | (simp [*]; done) | (have q_ := hS334.size; simp; omega))
  refine WD.semU 18 (Instr.storeAt 26 (.pointer (some ⟨p, 2, none⟩)) (.slice A326 ((putK kS xs (⟨s.v, A291, c292⟩ : Svc) (decide (s.v.ends.length = 0))).length) c327)) (by kernel_rfl) (by kernel_rfl) hr341 hS344 ?_
  have ho345 := own_fr ho331 hF342 (hC333.apartM 0 0 rfl rfl)
  have ho346 := own_fr ho335 hF342 (hC333.apartM 1 0 rfl rfl)
  have ho347 := own_fr ho336 hF342 (hC333.apartM 2 0 rfl rfl)
  have ho348 := own_fr ho337 hF342 (hC333.apartM 3 0 rfl rfl)
  have hf349 := svcsIn.fr hf338 hF342 (hC333.apartM 4 0 rfl rfl)
  have ho350 := own_fr ho339 hF342 (hC333.apartM 5 0 rfl rfl)
  refine WDp (NPt hN) 19 6 (.bool (hasK kS (kV s.v) xs)) (by kernel_rfl) (fun _ => by kernel_rfl) hS344 ?_
  refine WD.done (by kernel_rfl) ?_
  refine QXn (hK315 _ _ ?_)
  refine WCs (fun K351 hK352 => ?_)
  refine WCs (fun K353 hK354 => ?_)
  refine WCg (WLr 1 [(58, .pointer (some ⟨g3, 3, none⟩))] (fun _ => by kernel_rfl) ?_)
  refine WL.load 50 (.pointer (some ⟨g3, 3, none⟩)) (.slice A291 s.v.ends.length c292) 59 (by kernel_rfl) (run_ld (hC343.get 1 rfl) rfl) ?_
  refine WLr 2 [(61, .bool ((s.v.ends.length : Int) == 0)), (60, .int .i64 (s.v.ends.length : Int))] (fun _ => by kernel_rfl) ?_
  refine WLt (show (.bool ((s.v.ends.length : Int) == 0) : Value) = .bool (decide (s.v.ends.length = 0)) from by congr 1; rw [Bool.eq_iff_iff]; simp) ?_
  refine WLr 1 [(62, .bool (decide (s.v.ends.length = 0)))] (fun _ => by kernel_rfl) ?_
  refine WLa 62 (decide (s.v.ends.length = 0)) rfl (fun t355b => ?_) (fun t355b => ?_)
  ·
   have t355 : s.v.ends.length = 0 := of_decide_eq_true t355b
   refine WLr 3 [(65, .bool (!(hasK kS (kV s.v) xs))), (64, .bool (!(hasK kS (kV s.v) xs))), (63, .bool (hasK kS (kV s.v) xs))] (fun _ => by kernel_rfl) (WLd rfl (QXn (hK354 _ _ ?_)))
   refine WCa 65 (!(hasK kS (kV s.v) xs)) rfl (fun t356b => ?_) (fun t356b => ?_)
   ·
    have t356 : (hasK kS (kV s.v) xs) = false := by first | (simpa only [Bool.not_eq_true', Bool.not_eq_false'] using t356b) | simpa using t356b
    refine WCt rfl ?_
    refine WCs (fun K357 hK358 => ?_)
    refine WCg (WLr 1 [(66, .iface 73 (.int .i64 6))] (fun _ => by kernel_rfl) ?_)
    refine WLc rfl rfl rfl rfl rfl (by kernel_rfl) (result_err 6 w340) ?_
    rintro _ w360 ⟨rfl, hF359⟩
    refine ⟨_, rfl, ?_⟩
    have hC361 := hC343.call hF359
    have ho362 := own_fr ho345 hF359 (by simp)
    have ho363 := own_fr ho346 hF359 (by simp)
    have ho364 := own_fr ho347 hF359 (by simp)
    have ho365 := own_fr ho348 hF359 (by simp)
    have hf366 := svcsIn.fr hf349 hF359 (by simp)
    have ho367 := own_fr ho350 hF359 (by simp)
    refine WLs (c' := #[.int .i64 6, .int .u32 0, .int .i64 0, .int .u32 0, .int .i64 0]) hC361 2 47 g14 0 (.agg #[.int .i64 6, .int .u32 0, .int .i64 0, .int .u32 0, .int .i64 0]) (by kernel_rfl) rfl (by kernel_rfl) (fun w368 hF370 hC371 => ?_)
    have ho372 := own_fr ho362 hF370 (hC361.apartM 0 2 rfl rfl)
    have ho373 := own_fr ho363 hF370 (hC361.apartM 1 2 rfl rfl)
    have ho374 := own_fr ho364 hF370 (hC361.apartM 2 2 rfl rfl)
    have ho375 := own_fr ho365 hF370 (hC361.apartM 3 2 rfl rfl)
    have hf376 := svcsIn.fr hf366 hF370 (hC361.apartM 4 2 rfl rfl)
    have ho377 := own_fr ho367 hF370 (hC361.apartM 5 2 rfl rfl)
    refine WLd rfl (QXn (hK358 _ _ ?_))
    refine WC.ret ?_
    refine QXr ?_
    refine (hret' _ _ (.agg #[.int .i64 6, .int .u32 0, .int .i64 0, .int .u32 0, .int .i64 0]) (fun a ha => ?_) ?_).1
    ·
     exact res_run ha ((ResR.cell rfl (run_ld (hC371.get 2 rfl) rfl) ResR.nil)) rfl
    clear hN hret hret' hK358 hK354 hK352 hK315 hK290 hK50 hK48 hK26 hK2
    have hth_ : thereS V s.v = hasK kS (kV s.v) xs := by unfold thereS; rw [← hvals, hasK_map]
    have hc_ : ¬ (0 < s.v.ends.length ∧ thereS V s.v = false ∧ 32 ≤ V.svcs.length) := fun q_ => by obtain ⟨q1_, q2_, q3_⟩ := q_; rw [hth_] at q2_; first | omega | (exact absurd q2_ (by rw [t356]; decide))
    have hV_ : svcC V s.v = { V with svcs := putK kV V.svcs s.v (decide (s.v.ends.length = 0)) } := by unfold svcC; rw [if_neg hc_]
    rw [hV_]
    have hsv_ : svcAt w368 (⟨s.v, A291, c292⟩ : Svc) := ⟨own_rd ho377 cellsE_len (by decide), hs.wfe, hs.vip, hs.proto, hs.port, hs.lim, own_le ho377⟩
    have hC382 := Cx_join hC371 4 5 rfl rfl (by decide)
    have hC381 := Cx.pickM hC382 [0] [0, 1, 2, 3, 4] (by decide) rfl rfl
    obtain ⟨hT378, hfr379, hsub380⟩ := cfg_close (V := { V with svcs := putK kV V.svcs s.v (decide (s.v.ends.length = 0)) }) (xs := putK kS xs (⟨s.v, A291, c292⟩ : Svc) (decide (s.v.ends.length = 0))) hC381 ho372 ho373 ho374 ho375 (hf376.put hssx_ hsv_) (by rw [putK_map, hvals])
    have hR_ : svcR V s.v = errR 6 := by unfold svcR; rw [if_neg hc_, if_pos ⟨by omega, by rw [hth_]; exact t356⟩]
    rw [hR_]
    exact ⟨_, rfl, hfr379, hT378, hsub380⟩
   ·
    have t356 : (hasK kS (kV s.v) xs) = true := by first | (simpa only [Bool.not_eq_true', Bool.not_eq_false'] using t356b) | simpa using t356b
    refine WCf rfl (WC.skip (QXn (hK352 _ _ ?_)))
    refine WCs (fun K383 hK384 => ?_)
    refine WCg (WLr 1 [(68, .agg #[.int .i64 0, .int .u32 0, .int .i64 0, .int .u32 0, .int .i64 0])] (fun _ => by kernel_rfl) ?_)
    refine WLs (c' := #[.int .i64 0, .int .u32 0, .int .i64 0, .int .u32 0, .int .i64 0]) hC343 2 47 g14 0 (.agg #[.int .i64 0, .int .u32 0, .int .i64 0, .int .u32 0, .int .i64 0]) (by kernel_rfl) rfl (by kernel_rfl) (fun w385 hF387 hC388 => ?_)
    have ho389 := own_fr ho345 hF387 (hC343.apartM 0 2 rfl rfl)
    have ho390 := own_fr ho346 hF387 (hC343.apartM 1 2 rfl rfl)
    have ho391 := own_fr ho347 hF387 (hC343.apartM 2 2 rfl rfl)
    have ho392 := own_fr ho348 hF387 (hC343.apartM 3 2 rfl rfl)
    have hf393 := svcsIn.fr hf349 hF387 (hC343.apartM 4 2 rfl rfl)
    have ho394 := own_fr ho350 hF387 (hC343.apartM 5 2 rfl rfl)
    refine WLd rfl (QXn (hK384 _ _ ?_))
    refine WC.ret ?_
    refine (hret' _ _ (.agg #[.int .i64 0, .int .u32 0, .int .i64 0, .int .u32 0, .int .i64 0]) (fun a ha => ?_) ?_).1
    ·
     exact res_run ha ((ResR.cell rfl (run_ld (hC388.get 2 rfl) rfl) ResR.nil)) rfl
    clear hN hret hret' hK384 hK354 hK352 hK315 hK290 hK50 hK48 hK26 hK2
    have hth_ : thereS V s.v = hasK kS (kV s.v) xs := by unfold thereS; rw [← hvals, hasK_map]
    have hc_ : ¬ (0 < s.v.ends.length ∧ thereS V s.v = false ∧ 32 ≤ V.svcs.length) := fun q_ => by obtain ⟨q1_, q2_, q3_⟩ := q_; rw [hth_] at q2_; first | omega | (exact absurd q2_ (by rw [t356]; decide))
    have hV_ : svcC V s.v = { V with svcs := putK kV V.svcs s.v (decide (s.v.ends.length = 0)) } := by unfold svcC; rw [if_neg hc_]
    rw [hV_]
    have hsv_ : svcAt w385 (⟨s.v, A291, c292⟩ : Svc) := ⟨own_rd ho394 cellsE_len (by decide), hs.wfe, hs.vip, hs.proto, hs.port, hs.lim, own_le ho394⟩
    have hC399 := Cx_join hC388 4 5 rfl rfl (by decide)
    have hC398 := Cx.pickM hC399 [0] [0, 1, 2, 3, 4] (by decide) rfl rfl
    obtain ⟨hT395, hfr396, hsub397⟩ := cfg_close (V := { V with svcs := putK kV V.svcs s.v (decide (s.v.ends.length = 0)) }) (xs := putK kS xs (⟨s.v, A291, c292⟩ : Svc) (decide (s.v.ends.length = 0))) hC398 ho389 ho390 ho391 ho392 (hf393.put hssx_ hsv_) (by rw [putK_map, hvals])
    have hR_ : svcR V s.v = okR := by unfold svcR; rw [if_neg hc_, if_neg (fun q_ => by obtain ⟨q1_, q2_⟩ := q_; rw [hth_] at q2_; first | omega | (exact absurd q2_ (by rw [t356]; decide)))]
    rw [hR_]
    exact ⟨_, rfl, hfr396, hT395, hsub397⟩
  ·
   have t355 : ¬ (s.v.ends.length = 0) := of_decide_eq_false t355b
   refine WLr 3 [(65, .bool false), (64, undef), (63, undef)] (fun _ => by kernel_rfl) (WLd rfl (QXn (hK354 _ _ ?_)))
   refine WCf rfl (WC.skip (QXn (hK352 _ _ ?_)))
   refine WCs (fun K400 hK401 => ?_)
   refine WCg (WLr 1 [(68, .agg #[.int .i64 0, .int .u32 0, .int .i64 0, .int .u32 0, .int .i64 0])] (fun _ => by kernel_rfl) ?_)
   refine WLs (c' := #[.int .i64 0, .int .u32 0, .int .i64 0, .int .u32 0, .int .i64 0]) hC343 2 47 g14 0 (.agg #[.int .i64 0, .int .u32 0, .int .i64 0, .int .u32 0, .int .i64 0]) (by kernel_rfl) rfl (by kernel_rfl) (fun w402 hF404 hC405 => ?_)
   have ho406 := own_fr ho345 hF404 (hC343.apartM 0 2 rfl rfl)
   have ho407 := own_fr ho346 hF404 (hC343.apartM 1 2 rfl rfl)
   have ho408 := own_fr ho347 hF404 (hC343.apartM 2 2 rfl rfl)
   have ho409 := own_fr ho348 hF404 (hC343.apartM 3 2 rfl rfl)
   have hf410 := svcsIn.fr hf349 hF404 (hC343.apartM 4 2 rfl rfl)
   have ho411 := own_fr ho350 hF404 (hC343.apartM 5 2 rfl rfl)
   refine WLd rfl (QXn (hK401 _ _ ?_))
   refine WC.ret ?_
   refine (hret' _ _ (.agg #[.int .i64 0, .int .u32 0, .int .i64 0, .int .u32 0, .int .i64 0]) (fun a ha => ?_) ?_).1
   ·
    exact res_run ha ((ResR.cell rfl (run_ld (hC405.get 2 rfl) rfl) ResR.nil)) rfl
   clear hN hret hret' hK401 hK354 hK352 hK315 hK290 hK50 hK48 hK26 hK2
   have hth_ : thereS V s.v = hasK kS (kV s.v) xs := by unfold thereS; rw [← hvals, hasK_map]
   have hc_ : ¬ (0 < s.v.ends.length ∧ thereS V s.v = false ∧ 32 ≤ V.svcs.length) := fun q_ => by obtain ⟨q1_, q2_, q3_⟩ := q_; rw [hth_] at q2_; first | omega
   have hV_ : svcC V s.v = { V with svcs := putK kV V.svcs s.v (decide (s.v.ends.length = 0)) } := by unfold svcC; rw [if_neg hc_]
   rw [hV_]
   have hsv_ : svcAt w402 (⟨s.v, A291, c292⟩ : Svc) := ⟨own_rd ho411 cellsE_len (by decide), hs.wfe, hs.vip, hs.proto, hs.port, hs.lim, own_le ho411⟩
   have hC416 := Cx_join hC405 4 5 rfl rfl (by decide)
   have hC415 := Cx.pickM hC416 [0] [0, 1, 2, 3, 4] (by decide) rfl rfl
   obtain ⟨hT412, hfr413, hsub414⟩ := cfg_close (V := { V with svcs := putK kV V.svcs s.v (decide (s.v.ends.length = 0)) }) (xs := putK kS xs (⟨s.v, A291, c292⟩ : Svc) (decide (s.v.ends.length = 0))) hC415 ho406 ho407 ho408 ho409 (hf410.put hssx_ hsv_) (by rw [putK_map, hvals])
   have hR_ : svcR V s.v = okR := by unfold svcR; rw [if_neg hc_, if_neg (fun q_ => by obtain ⟨q1_, q2_⟩ := q_; rw [hth_] at q2_; first | omega)]
   rw [hR_]
   exact ⟨_, rfl, hfr413, hT412, hsub414⟩

end Go.Proofs.YtfligklljkcbfaaDoor
