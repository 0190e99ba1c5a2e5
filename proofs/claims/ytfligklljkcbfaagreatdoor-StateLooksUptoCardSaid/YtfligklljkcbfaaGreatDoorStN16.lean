/- Contracts of functions of the program, each proved by a walk through its code; conditions stand in the statements. -/
import Derived.Test.YtfligklljkcbfaaGreatDoorStM16
namespace Go.Proofs.YtfligklljkcbfaaGreatDoor
set_option linter.unusedSimpArgs false
set_option linter.unusedVariables false
set_option linter.unusedSectionVars false
open Go Go.RowKit Go.Tw
set_option linter.unusedVariables false
set_option maxRecDepth 20000
theorem Cx_join {w0 w : World} {F0 : List Nat} {M : List (Nat × Obj)} {Fs : List (List Nat)} (h : Cx w0 F0 w M Fs) (i j : Nat) {A B : List Nat} (hi : Fs[i]? = some A) (hj : Fs[j]? = some B) (hij : i ≠ j) : Cx w0 F0 w M ((Fs.set i (A ++ B)).set j []) := by
  have hli := (List.getElem?_eq_some_iff.1 hi).1
  have hlj := (List.getElem?_eq_some_iff.1 hj).1
  have at_ : ∀ a G, ((Fs.set i (A ++ B)).set j [])[a]? = some G → ∀ x ∈ G, a ≠ j ∧ ∃ a' G', Fs[a']? = some G' ∧ x ∈ G' ∧ (a' = a ∨ (a = i ∧ a' = j)) := by
    intro a G hG x hx
    by_cases e : a = j
    · subst e
      rw [List.getElem?_set_self (by rw [List.length_set]; exact hlj)] at hG
      cases hG; cases hx
    · rw [List.getElem?_set_ne (Ne.symm e)] at hG
      refine ⟨e, ?_⟩
      by_cases e2 : a = i
      · subst e2
        rw [List.getElem?_set_self hli] at hG
        cases hG
        rcases List.mem_append.1 hx with hx | hx
        · exact ⟨a, A, hi, hx, .inl rfl⟩
        · exact ⟨j, B, hj, hx, .inr ⟨rfl, rfl⟩⟩
      · rw [List.getElem?_set_ne (Ne.symm e2)] at hG
        exact ⟨a, G, hG, hx, .inl rfl⟩
  have mem_ : ∀ G ∈ (Fs.set i (A ++ B)).set j [], ∀ x ∈ G, ∃ G' ∈ Fs, x ∈ G' := by
    intro G hG x hx
    obtain ⟨a, ha⟩ := List.getElem?_of_mem hG
    obtain ⟨_, a', G', h1, h2, _⟩ := at_ a G ha x hx
    exact ⟨G', List.mem_of_getElem? h1, h2⟩
  refine ⟨h.fr, h.has, h.nodup, ?_, ?_, ?_, h.ownM, ?_⟩
  · rw [List.pairwise_iff_getElem]
    intro a b ha hb hab x hx hx2
    obtain ⟨n1, a', G1, g1, m1, q1⟩ := at_ a _ (List.getElem?_eq_getElem ha) x hx
    obtain ⟨n2, b', G2, g2, m2, q2⟩ := at_ b _ (List.getElem?_eq_getElem hb) x hx2
    have hne : a' ≠ b' := by rcases q1 with rfl | ⟨rfl, rfl⟩ <;> rcases q2 with rfl | ⟨rfl, rfl⟩ <;> omega
    exact h.disj a' b' g1 g2 hne x m1 m2
  · intro G hG p hp hx
    obtain ⟨G', h1, h2⟩ := mem_ G hG _ hx
    exact h.apart G' h1 p hp h2
  · intro G hG x hx
    obtain ⟨G', h1, h2⟩ := mem_ G hG x hx
    exact h.bound G' h1 x h2
  · intro G hG x hx
    obtain ⟨G', h1, h2⟩ := mem_ G hG x hx
    exact h.ownF G' h1 x h2

theorem Cx_sw5 {w0 w : World} {F0 : List Nat} {M : List (Nat × Obj)} {A B C D R : List Nat} (h : Cx w0 F0 w M [A, B, C, R, D]) : Cx w0 F0 w M [A, B, C, D, R] := by
  have hs := h.sep
  have h1 := h.apart
  have h2 := h.bound
  have h3 := h.ownF
  simp only [List.pairwise_cons, List.mem_cons, List.not_mem_nil, or_false, forall_eq_or_imp, forall_eq, false_imp_iff, implies_true, List.Pairwise.nil, and_true] at hs h1 h2 h3
  refine ⟨h.fr, h.has, h.nodup, ?_, ?_, ?_, h.ownM, ?_⟩
  · simp only [List.pairwise_cons, List.mem_cons, List.not_mem_nil, or_false, forall_eq_or_imp, forall_eq, false_imp_iff, implies_true, List.Pairwise.nil, and_true]
    obtain ⟨⟨a1, a2, a3, a4⟩, ⟨b1, b2, b3⟩, ⟨c1, c2⟩, d1⟩ := hs
    exact ⟨⟨a1, a2, a4, a3⟩, ⟨b1, b3, b2⟩, ⟨c2, c1⟩, fun x hx hx2 => d1 x hx2 hx⟩
  · simp only [List.mem_cons, List.not_mem_nil, or_false, forall_eq_or_imp, forall_eq]
    exact ⟨h1.1, h1.2.1, h1.2.2.1, h1.2.2.2.2, h1.2.2.2.1⟩
  · simp only [List.mem_cons, List.not_mem_nil, or_false, forall_eq_or_imp, forall_eq]
    exact ⟨h2.1, h2.2.1, h2.2.2.1, h2.2.2.2.2, h2.2.2.2.1⟩
  · simp only [List.mem_cons, List.not_mem_nil, or_false, forall_eq_or_imp, forall_eq]
    exact ⟨h3.1, h3.2.1, h3.2.2.1, h3.2.2.2.2, h3.2.2.2.1⟩
theorem Cx.reset5 {w0 w : World} {F0 : List Nat} {p : Nat} {o : Obj} {A B C D R : List Nat} (h : Cx w0 F0 w [(p, o)] [A, B, C, D, R]) : Cx w (p :: (A ++ (B ++ (C ++ (D ++ R))))) w [(p, o)] [A, B, C, D, R] :=
  ⟨.refl _ _, h.has, h.nodup, h.sep, h.apart, h.bound, by simp, by
    intro X hX x hx
    refine .inl (List.mem_cons_of_mem _ ?_)
    simp only [List.mem_append]
    simp only [List.mem_cons, List.not_mem_nil, or_false] at hX
    rcases hX with rfl | rfl | rfl | rfl | rfl
    · exact .inl hx
    · exact .inr (.inl hx)
    · exact .inr (.inr (.inl hx))
    · exact .inr (.inr (.inr (.inl hx)))
    · exact .inr (.inr (.inr (.inr hx)))⟩
theorem Cx.subs5 {w0 w : World} {F0 : List Nat} {p : Nat} {o : Obj} {A B C D R : List Nat} (h : Cx w0 F0 w [(p, o)] [A, B, C, D, R]) : ∀ x ∈ p :: (A ++ (B ++ (C ++ (D ++ R)))), x ∈ F0 ∨ w0.heap.size ≤ x := by
  intro x hx
  simp only [List.mem_cons, List.mem_append] at hx
  rcases hx with rfl | hx | hx | hx | hx | hx
  · exact h.ownM (x, o) (by simp)
  · exact h.ownF A (by simp) x hx
  · exact h.ownF B (by simp) x hx
  · exact h.ownF C (by simp) x hx
  · exact h.ownF D (by simp) x hx
  · exact h.ownF R (by simp) x hx
theorem Cx.lts5 {w0 w : World} {F0 : List Nat} {p : Nat} {o : Obj} {A B C D R : List Nat} (h : Cx w0 F0 w [(p, o)] [A, B, C, D, R]) : ∀ x ∈ p :: (A ++ (B ++ (C ++ (D ++ R)))), x < w.heap.size := by
  intro x hx
  simp only [List.mem_cons, List.mem_append] at hx
  rcases hx with rfl | hx | hx | hx | hx | hx
  · exact h.lt (p := (x, o)) (by simp)
  · exact h.bound A (by simp) x hx
  · exact h.bound B (by simp) x hx
  · exact h.bound C (by simp) x hx
  · exact h.bound D (by simp) x hx
  · exact h.bound R (by simp) x hx
theorem Cx.move5 {w w' : World} {F0 G : List Nat} {p : Nat} {o : Obj} {A B C D R : List Nat} (h : Cx w F0 w [(p, o)] [A, B, C, D, R]) (hf : Fr w w' G) (hp : p ∉ G) : Cx w' F0 w' [(p, o)] [A, B, C, D, R] :=
  ⟨.refl _ _, fun q hq => by rw [List.mem_singleton] at hq; subst hq; exact hf.has (h.has _ (by simp)) hp, h.nodup, h.sep, h.apart, fun F hF x hx => Nat.lt_of_lt_of_le (h.bound F hF x hx) hf.size,
    fun q hq => .inl ((h.ownM q hq).resolve_right (fun hge => by have := h.lt hq; omega)), fun F hF x hx => .inl ((h.ownF F hF x hx).resolve_right (fun hge => by have := h.bound F hF x hx; omega))⟩
def cfgAt (w : World) (F : List Nat) (p : Nat) (V : CfgV) : Prop :=
  ∃ (AS : Option Addr) (cS : Nat) (xs : List Svc) (AN : Option Addr) (cN : Nat) (AK : Option Addr) (cK : Nat) (AL : Option Addr) (cL : Nat) (R : List Nat),
    Cx w F w [(p, .cells #[.int .i64 V.epoch, .int .i64 V.now, .slice AS xs.length cS, .slice AN V.snats.length cN, .slice AK V.sick.length cK, .slice AL V.leases.length cL] 72 (0, 0))] [blk (.slice AS xs.length cS), blk (.slice AN V.snats.length cN), blk (.slice AK V.sick.length cK), blk (.slice AL V.leases.length cL), R] ∧
    F = p :: (blk (.slice AS xs.length cS) ++ (blk (.slice AN V.snats.length cN) ++ (blk (.slice AK V.sick.length cK) ++ (blk (.slice AL V.leases.length cL) ++ R)))) ∧
    w.ownsRow 0 43 4 (.slice AS xs.length cS) xs.length (xs.flatMap cellsS) ∧ w.ownsRow 0 79 2 (.slice AN V.snats.length cN) V.snats.length (V.snats.flatMap cellsN) ∧
    w.ownsRow 0 40 1 (.slice AK V.sick.length cK) V.sick.length (V.sick.flatMap (Go.Tw.encI .u32)) ∧ w.ownsRow 0 50 4 (.slice AL V.leases.length cL) V.leases.length (V.leases.flatMap encL) ∧
    svcsIn w R xs ∧ xs.map (·.v) = V.svcs
theorem cfg_close {w0 w : World} {F0 : List Nat} {p : Nat} {V : CfgV} {AS : Option Addr} {cS : Nat} {xs : List Svc} {AN : Option Addr} {cN : Nat} {AK : Option Addr} {cK : Nat} {AL : Option Addr} {cL : Nat} {R : List Nat}
    (h : Cx w0 F0 w [(p, .cells #[.int .i64 V.epoch, .int .i64 V.now, .slice AS xs.length cS, .slice AN V.snats.length cN, .slice AK V.sick.length cK, .slice AL V.leases.length cL] 72 (0, 0))] [blk (.slice AS xs.length cS), blk (.slice AN V.snats.length cN), blk (.slice AK V.sick.length cK), blk (.slice AL V.leases.length cL), R])
    (hS : w.ownsRow 0 43 4 (.slice AS xs.length cS) xs.length (xs.flatMap cellsS)) (hN : w.ownsRow 0 79 2 (.slice AN V.snats.length cN) V.snats.length (V.snats.flatMap cellsN))
    (hK : w.ownsRow 0 40 1 (.slice AK V.sick.length cK) V.sick.length (V.sick.flatMap (Go.Tw.encI .u32))) (hL : w.ownsRow 0 50 4 (.slice AL V.leases.length cL) V.leases.length (V.leases.flatMap encL))
    (hi : svcsIn w R xs) (hv : xs.map (·.v) = V.svcs) :
    cfgAt w (p :: (blk (.slice AS xs.length cS) ++ (blk (.slice AN V.snats.length cN) ++ (blk (.slice AK V.sick.length cK) ++ (blk (.slice AL V.leases.length cL) ++ R))))) p V ∧ Fr w0 w F0 ∧ ∀ x ∈ p :: (blk (.slice AS xs.length cS) ++ (blk (.slice AN V.snats.length cN) ++ (blk (.slice AK V.sick.length cK) ++ (blk (.slice AL V.leases.length cL) ++ R)))), x ∈ F0 ∨ w0.heap.size ≤ x :=
  ⟨⟨AS, cS, xs, AN, cN, AK, cK, AL, cL, R, Cx.reset5 h, rfl, hS, hN, hK, hL, hi, hv⟩, h.fr, Cx.subs5 h⟩
theorem cfgAt_lt {w : World} {F : List Nat} {p : Nat} {V : CfgV} (h : cfgAt w F p V) : ∀ x ∈ F, x < w.heap.size := by
  obtain ⟨AS, cS, xs, AN, cN, AK, cK, AL, cL, R, hC, rfl, _⟩ := h
  exact Cx.lts5 hC
theorem cfgAt.fr {w w' : World} {F G : List Nat} {p : Nat} {V : CfgV} (h : cfgAt w F p V) (hf : Fr w w' G) (hd : ∀ x ∈ F, x ∉ G) : cfgAt w' F p V := by
  obtain ⟨AS, cS, xs, AN, cN, AK, cK, AL, cL, R, hC, rfl, h1, h2, h3, h4, h5, h6⟩ := h
  simp only [List.mem_cons, List.mem_append] at hd
  exact ⟨AS, cS, xs, AN, cN, AK, cK, AL, cL, R, Cx.move5 hC hf (hd p (.inl rfl)), rfl, own_fr h1 hf (fun x hx => hd x (.inr (.inl hx))), own_fr h2 hf (fun x hx => hd x (.inr (.inr (.inl hx)))), own_fr h3 hf (fun x hx => hd x (.inr (.inr (.inr (.inl hx))))), own_fr h4 hf (fun x hx => hd x (.inr (.inr (.inr (.inr (.inl hx)))))), h5.fr hf (fun x hx => hd x (.inr (.inr (.inr (.inr (.inr hx)))))), h6⟩
set_option maxHeartbeats 1000000 in
theorem snat_ct (F : List Nat) (p : Nat) (V : CfgV) (n : Nat) (c : Cmd) (w : World) (h : cfgAt w F p V) (hw : wfCfg V n) (hn : n ≤ 100000000000) : Calls Tryz.prog 60 #[P0 p 0, .agg #[I6 c.v.node, I6 c.v.boot, I6 c.v.seq, I6 c.v.time, I6 c.v.kind, U4 c.v.svip, I6 c.v.sproto, I6 c.v.sport, .slice c.a c.v.ends.length c.c, U4 c.v.dip, U4 c.v.vip, .bool c.v.up]] w fun e w' => ∃ F2, e = .returned (.agg #[I6 ((snatR V ⟨c.v.dip, c.v.vip⟩ c.v.up).err), U4 ((snatR V ⟨c.v.dip, c.v.vip⟩ c.v.up).lease.vip), I6 ((snatR V ⟨c.v.dip, c.v.vip⟩ c.v.up).lease.first), U4 ((snatR V ⟨c.v.dip, c.v.vip⟩ c.v.up).lease.dip), I6 ((snatR V ⟨c.v.dip, c.v.vip⟩ c.v.up).lease.exp)]) ∧ Fr w w' F ∧ cfgAt w' F2 p (snatC V ⟨c.v.dip, c.v.vip⟩ c.v.up) ∧ ∀ x ∈ F2, x ∈ F ∨ w.heap.size ≤ x := by
 refine enterD (n := 37) Tryz.func60 rfl rfl (Nat.le_of_ble_eq_true rfl) ?_
 intro Q0 hN hret hret'
 obtain ⟨AS, cS, xs, AN, cN, AK, cK, AL, cL, R, hC, hF_, hrS, hrN, hrK, hrL, hin, hvals⟩ := h
 have hssx_ : sortK kS xs := sortK_map (by rw [hvals]; exact hw.ssort)
 have hslx_ : V.svcs.length = xs.length := by rw [← hvals, List.length_map]
 have hws1_ := hw.sn
 have hws2_ := hw.nn
 have hws3_ := hw.kn
 have hws4_ := hw.ln
 have hws5_ := hw.ep0
 have hws6_ := hw.ep1
 have hws7_ := hw.now0
 have hws8_ := hw.now1
 refine WCs (fun K1 hK2 => WCg (WLb hC (.cells #[I6 c.v.node, I6 c.v.boot, I6 c.v.seq, I6 c.v.time, I6 c.v.kind, U4 c.v.svip, I6 c.v.sproto, I6 c.v.sport, .slice c.a c.v.ends.length c.c, U4 c.v.dip, U4 c.v.vip, .bool c.v.up] 45) 3 (fun g3 w4 hb7 hF5 hC6 => WLb hC6 (.cells #[I6 0, U4 0, I6 0, U4 0, I6 0] 52) 4 (fun g8 w9 bk aS aT => ?_))))
 have aU := hF5.trans aS (by simp)
 refine WLd rfl (QXn (hK2 _ _ (WCs (fun bn au => WCg (WLq 1 [(5, .bool false)] (WLd rfl (QXn (au _ _ (WCs (fun bo av => WC.drawC aT (p :: blk (.slice AN V.snats.length cN)) (by kernel_rfl) (fun bl aV ab ac => ?_)))))))))))
 have ai := aU.trans aV (by simp)
 refine WDx 8 [(0, 7, P0 p 0), (1, 8, P0 p 0), (2, 9, P0 p 0), (3, 10, P0 p 0), (4, 11, P0 p 3), (6, 13, P0 g3 9), (8, 15, P0 g3 10), (11, 18, P0 g3 11)] ac (WDm 7 40 (P0 g3 9) (U4 c.v.dip) 14 (fun _ hS_ => run_ld (Fr.has hS_ (ab.get 1 rfl) (fun h_ => (List.mem_cons.1 h_).elim (ab.ne 1 0 rfl rfl (by decide)) (ab.notin 1 1 rfl rfl))) rfl) ac (WDm 9 40 (P0 g3 10) (U4 c.v.vip) 16 (fun _ hS_ => run_ld (Fr.has hS_ (ab.get 1 rfl) (fun h_ => (List.mem_cons.1 h_).elim (ab.ne 1 0 rfl rfl (by decide)) (ab.notin 1 1 rfl rfl))) rfl) ac (WDq 10 17 (.agg #[U4 c.v.dip, U4 c.v.vip]) ac (WDm 12 4 (P0 g3 11) (.bool c.v.up) 19 (fun _ hS_ => run_ld (Fr.has hS_ (ab.get 1 rfl) (fun h_ => (List.mem_cons.1 h_).elim (ab.ne 1 0 rfl rfl (by decide)) (ab.notin 1 1 rfl rfl))) rfl) ac (WDq 13 20 (.bool !c.v.up) ac ?_)))))
 refine WD.sem 5 (Instr.loadAt 27 (P0 p 3)) 12 (.slice AN V.snats.length cN) (by kernel_rfl) (by kernel_rfl) (run_ld (ab.get 0 rfl) rfl) ac (WDc 14 (putN_ct AN V.snats.length cN V.snats (⟨c.v.dip, c.v.vip⟩ : SnatV) (!c.v.up) bl (own_fr hrN ai (by simp)) (hw.nsort) (by omega)) ?_)
 rintro _ bp ⟨v_, rfl, ag, aj, aw⟩
 have aa := ab.callF 1 rfl ag aw (own_lt aj)
 obtain ⟨aE, aF, rfl, bj⟩ := own_form aj
 have af := ac.trans ag (fun x_ hx_ => .inl (List.mem_cons_of_mem _ hx_))
 refine ⟨_, rfl, af, ?_⟩
 have ax := own_fr (own_fr hrS ai (by simp)) ag (ab.disj 0 1 rfl rfl (by decide))
 have ay := own_fr (own_fr hrK ai (by simp)) ag (ab.disj 2 1 rfl rfl (by decide))
 have az := own_fr (own_fr hrL ai (by simp)) ag (ab.disj 3 1 rfl rfl (by decide))
 have aA := svcsIn.fr (svcsIn.fr hin ai (by simp)) ag (ab.disj 4 1 rfl rfl (by decide))
 refine WDx 6 [(15, 6, .tuple #[.slice aE ((putK kN V.snats (⟨c.v.dip, c.v.vip⟩ : SnatV) (!c.v.up)).length) aF, .bool (hasK kN (kN (⟨c.v.dip, c.v.vip⟩ : SnatV)) V.snats)]), (16, 22, .slice aE ((putK kN V.snats (⟨c.v.dip, c.v.vip⟩ : SnatV) (!c.v.up)).length) aF), (17, 23, .bool (hasK kN (kN (⟨c.v.dip, c.v.vip⟩ : SnatV)) V.snats)), (18, 24, P0 p 0), (19, 25, P0 p 0), (20, 26, P0 p 3)] af ?_
 obtain ⟨bm, aW, ae, ad⟩ := sto_run (c' := #[I6 V.epoch, I6 V.now, .slice AS xs.length cS, .slice aE ((putK kN V.snats (⟨c.v.dip, c.v.vip⟩ : SnatV) (!c.v.up)).length) aF, .slice AK V.sick.length cK, .slice AL V.leases.length cL]) Tryz.prog aa 0 27 p 3 (.slice aE ((putK kN V.snats (⟨c.v.dip, c.v.vip⟩ : SnatV) (!c.v.up)).length) aF) rfl (by kernel_rfl)
 have aG := af.trans ae (by first | (simp; done) | (simp [*]; done) | (have q_ := af.size; simp; omega))
 refine WDu 21 aW aG (WDq 22 5 (.bool (hasK kN (kN (⟨c.v.dip, c.v.vip⟩ : SnatV)) V.snats)) aG (WDd (QXn (av _ _ (WCs (fun bq ak => WCs (fun br al => ?_)))))))
 refine WCg (WLq 1 [(27, P0 g3 11)] (WLo 4 (P0 g3 11) (.bool c.v.up) 28 (run_ld (ad.get 1 rfl) rfl) (WLz 2 [(30, .bool !c.v.up)] (WLa 30 (!c.v.up) rfl (fun am => ?_) (fun am => ?_)))))
 ·
  have aR : c.v.up = false := by first | (simpa only [Bool.not_eq_true', Bool.not_eq_false'] using am) | simpa using am
  refine WLz 3 [(33, .bool (!(hasK kN (kN (⟨c.v.dip, c.v.vip⟩ : SnatV)) V.snats)))] (WLd rfl (QXn (al _ _ (WCa 33 (!(hasK kN (kN (⟨c.v.dip, c.v.vip⟩ : SnatV)) V.snats)) rfl (fun an => ?_) (fun an => ?_)))))
  ·
   have aX : (hasK kN (kN (⟨c.v.dip, c.v.vip⟩ : SnatV)) V.snats) = false := by first | (simpa only [Bool.not_eq_true', Bool.not_eq_false'] using an) | simpa using an
   refine WCt rfl (WCs (fun bs aH => WCg (WLq 1 [(34, .iface 118 (I6 6))] (WLk (result_err 6 bm) ?_))))
   rintro _ bt ⟨rfl, aI⟩
   refine ⟨_, rfl, ?_⟩
   have ah := ad.call aI
   have ao := ae.trans aI (by simp)
   refine WLv (c' := #[I6 6, U4 0, I6 0, U4 0, I6 0]) ah 2 52 g8 0 (.agg #[I6 6, U4 0, I6 0, U4 0, I6 0]) (fun bu ap aJ => ?_)
   have aY := own_fr (own_fr ax ao (aa.apartM 0 0 rfl rfl)) ap (ah.apartM 0 2 rfl rfl)
   have aZ := own_fr (own_fr aj ao (aa.apartM 1 0 rfl rfl)) ap (ah.apartM 1 2 rfl rfl)
   have a0 := own_fr (own_fr ay ao (aa.apartM 2 0 rfl rfl)) ap (ah.apartM 2 2 rfl rfl)
   have a1 := own_fr (own_fr az ao (aa.apartM 3 0 rfl rfl)) ap (ah.apartM 3 2 rfl rfl)
   have a2 := svcsIn.fr (svcsIn.fr aA ao (aa.apartM 4 0 rfl rfl)) ap (ah.apartM 4 2 rfl rfl)
   refine WLd rfl (QXn (aH _ _ (WC.ret (QXr ?_))))
   refine (hret' _ _ (.agg #[I6 6, U4 0, I6 0, U4 0, I6 0]) (fun a ha => ?_) ?_).1
   ·
    exact res_run ha ((ResR.cell rfl (run_ld (aJ.get 2 rfl) rfl) ResR.nil)) rfl
   clear hN hret hret' aH al ak av au hK2
   have a3 := Cx.pickM aJ [0] [0, 1, 2, 3, 4] (by decide) rfl rfl
   obtain ⟨a4, aK, aB⟩ := cfg_close (V := snatC V ⟨c.v.dip, c.v.vip⟩ c.v.up) (xs := xs) a3 aY aZ a0 a1 a2 hvals
   have hR_ : snatR V ⟨c.v.dip, c.v.vip⟩ c.v.up = errR 6 := by unfold snatR; rw [if_pos ⟨aR, aX⟩]
   rw [hR_]
   exact ⟨_, rfl, aK, a4, aB⟩
  ·
   have aX : (hasK kN (kN (⟨c.v.dip, c.v.vip⟩ : SnatV)) V.snats) = true := by first | (simpa only [Bool.not_eq_true', Bool.not_eq_false'] using an) | simpa using an
   refine WCf rfl (WC.skip (QXn (ak _ _ (WCs (fun bv aL => WCg (WLq 1 [(36, .agg #[I6 0, U4 0, I6 0, U4 0, I6 0])] (WLv (c' := #[I6 0, U4 0, I6 0, U4 0, I6 0]) ad 2 52 g8 0 (.agg #[I6 0, U4 0, I6 0, U4 0, I6 0]) (fun bw aq aM => ?_))))))))
   have a5 := own_fr (own_fr ax ae (aa.apartM 0 0 rfl rfl)) aq (ad.apartM 0 2 rfl rfl)
   have a6 := own_fr (own_fr aj ae (aa.apartM 1 0 rfl rfl)) aq (ad.apartM 1 2 rfl rfl)
   have a7 := own_fr (own_fr ay ae (aa.apartM 2 0 rfl rfl)) aq (ad.apartM 2 2 rfl rfl)
   have a8 := own_fr (own_fr az ae (aa.apartM 3 0 rfl rfl)) aq (ad.apartM 3 2 rfl rfl)
   have a9 := svcsIn.fr (svcsIn.fr aA ae (aa.apartM 4 0 rfl rfl)) aq (ad.apartM 4 2 rfl rfl)
   refine WLd rfl (QXn (aL _ _ (WC.ret ?_)))
   refine (hret' _ _ (.agg #[I6 0, U4 0, I6 0, U4 0, I6 0]) (fun a ha => ?_) ?_).1
   ·
    exact res_run ha ((ResR.cell rfl (run_ld (aM.get 2 rfl) rfl) ResR.nil)) rfl
   clear hN hret hret' aL al ak av au hK2
   have ba := Cx.pickM aM [0] [0, 1, 2, 3, 4] (by decide) rfl rfl
   obtain ⟨bb, aN, aC⟩ := cfg_close (V := snatC V ⟨c.v.dip, c.v.vip⟩ c.v.up) (xs := xs) ba a5 a6 a7 a8 a9 hvals
   have hR_ : snatR V ⟨c.v.dip, c.v.vip⟩ c.v.up = okR := by unfold snatR; rw [if_neg (fun q_ => by obtain ⟨q1_, q2_⟩ := q_; first | (exact absurd q1_ (by rw [aR]; decide)) | (exact absurd q2_ (by rw [aX]; decide)))]
   rw [hR_]
   exact ⟨_, rfl, aN, bb, aC⟩
 ·
  have aR : c.v.up = true := by first | (simpa only [Bool.not_eq_true', Bool.not_eq_false'] using am) | simpa using am
  refine WLz 3 [(33, .bool false)] (WLd rfl (QXn (al _ _ (WCf rfl (WC.skip (QXn (ak _ _ (WCs (fun bx aO => WCg (WLq 1 [(36, .agg #[I6 0, U4 0, I6 0, U4 0, I6 0])] (WLv (c' := #[I6 0, U4 0, I6 0, U4 0, I6 0]) ad 2 52 g8 0 (.agg #[I6 0, U4 0, I6 0, U4 0, I6 0]) (fun bz ar aP => ?_))))))))))))
  have bc := own_fr (own_fr ax ae (aa.apartM 0 0 rfl rfl)) ar (ad.apartM 0 2 rfl rfl)
  have bd := own_fr (own_fr aj ae (aa.apartM 1 0 rfl rfl)) ar (ad.apartM 1 2 rfl rfl)
  have be := own_fr (own_fr ay ae (aa.apartM 2 0 rfl rfl)) ar (ad.apartM 2 2 rfl rfl)
  have bf := own_fr (own_fr az ae (aa.apartM 3 0 rfl rfl)) ar (ad.apartM 3 2 rfl rfl)
  have bg := svcsIn.fr (svcsIn.fr aA ae (aa.apartM 4 0 rfl rfl)) ar (ad.apartM 4 2 rfl rfl)
  refine WLd rfl (QXn (aO _ _ (WC.ret ?_)))
  refine (hret' _ _ (.agg #[I6 0, U4 0, I6 0, U4 0, I6 0]) (fun a ha => ?_) ?_).1
  ·
   exact res_run ha ((ResR.cell rfl (run_ld (aP.get 2 rfl) rfl) ResR.nil)) rfl
  clear hN hret hret' aO al ak av au hK2
  have bh := Cx.pickM aP [0] [0, 1, 2, 3, 4] (by decide) rfl rfl
  obtain ⟨bi, aQ, aD⟩ := cfg_close (V := snatC V ⟨c.v.dip, c.v.vip⟩ c.v.up) (xs := xs) bh bc bd be bf bg hvals
  have hR_ : snatR V ⟨c.v.dip, c.v.vip⟩ c.v.up = okR := by unfold snatR; rw [if_neg (fun q_ => by obtain ⟨q1_, q2_⟩ := q_; first | (exact absurd q1_ (by rw [aR]; decide)))]
  rw [hR_]
  exact ⟨_, rfl, aQ, bi, aD⟩

set_option maxHeartbeats 1000000 in
theorem health_ct (F : List Nat) (p : Nat) (V : CfgV) (n : Nat) (c : Cmd) (w : World) (h : cfgAt w F p V) (hw : wfCfg V n) (hn : n ≤ 100000000000) : Calls Tryz.prog 61 #[P0 p 0, .agg #[I6 c.v.node, I6 c.v.boot, I6 c.v.seq, I6 c.v.time, I6 c.v.kind, U4 c.v.svip, I6 c.v.sproto, I6 c.v.sport, .slice c.a c.v.ends.length c.c, U4 c.v.dip, U4 c.v.vip, .bool c.v.up]] w fun e w' => ∃ F2, e = .returned (.agg #[I6 ((okR).err), U4 ((okR).lease.vip), I6 ((okR).lease.first), U4 ((okR).lease.dip), I6 ((okR).lease.exp)]) ∧ Fr w w' F ∧ cfgAt w' F2 p (sickC V c.v.dip c.v.up) ∧ ∀ x ∈ F2, x ∈ F ∨ w.heap.size ≤ x := by
 refine enterD (n := 23) Tryz.func61 rfl rfl (Nat.le_of_ble_eq_true rfl) ?_
 intro Q0 hN hret hret'
 obtain ⟨AS, cS, xs, AN, cN, AK, cK, AL, cL, R, hC, hF_, hrS, hrN, hrK, hrL, hin, hvals⟩ := h
 have hssx_ : sortK kS xs := sortK_map (by rw [hvals]; exact hw.ssort)
 have hslx_ : V.svcs.length = xs.length := by rw [← hvals, List.length_map]
 have hws1_ := hw.sn
 have hws2_ := hw.nn
 have hws3_ := hw.kn
 have hws4_ := hw.ln
 have hws5_ := hw.ep0
 have hws6_ := hw.ep1
 have hws7_ := hw.now0
 have hws8_ := hw.now1
 refine WCs (fun K1 hK2 => WCg (WLb hC (.cells #[I6 c.v.node, I6 c.v.boot, I6 c.v.seq, I6 c.v.time, I6 c.v.kind, U4 c.v.svip, I6 c.v.sproto, I6 c.v.sport, .slice c.a c.v.ends.length c.c, U4 c.v.dip, U4 c.v.vip, .bool c.v.up] 45) 3 (fun g3 w4 hb7 hF5 hC6 => WLb hC6 (.cells #[I6 0, U4 0, I6 0, U4 0, I6 0] 52) 4 (fun g8 w9 aM au av => ?_))))
 have aw := hF5.trans au (by simp)
 refine WLd rfl (QXn (hK2 _ _ (WCs (fun aO am => WC.drawC av (p :: blk (.slice AK V.sick.length cK)) (by kernel_rfl) (fun aN ax aa ab => ?_)))))
 have ah := aw.trans ax (by simp)
 refine WDx 7 [(0, 6, P0 p 0), (1, 7, P0 p 0), (2, 8, P0 p 0), (3, 9, P0 p 0), (4, 10, P0 p 4), (6, 12, P0 g3 9), (8, 14, P0 g3 11)] ab (WDm 7 40 (P0 g3 9) (U4 c.v.dip) 13 (fun _ hS_ => run_ld (Fr.has hS_ (aa.get 1 rfl) (fun h_ => (List.mem_cons.1 h_).elim (aa.ne 1 0 rfl rfl (by decide)) (aa.notin 2 1 rfl rfl))) rfl) ab (WDm 9 4 (P0 g3 11) (.bool c.v.up) 15 (fun _ hS_ => run_ld (Fr.has hS_ (aa.get 1 rfl) (fun h_ => (List.mem_cons.1 h_).elim (aa.ne 1 0 rfl rfl (by decide)) (aa.notin 2 1 rfl rfl))) rfl) ab (WD.sem 5 (Instr.loadAt 28 (P0 p 4)) 11 (.slice AK V.sick.length cK) (by kernel_rfl) (by kernel_rfl) (run_ld (aa.get 0 rfl) rfl) ab (WDc 10 (putA_ct AK V.sick.length cK V.sick c.v.dip c.v.up aN (own_fr hrK ah (by simp)) (hw.ksort) (by omega)) ?_))))
 rintro _ aP ⟨v_, rfl, ad, aj, ak⟩
 have ae := aa.callF 2 rfl ad ak (own_lt aj)
 obtain ⟨an, ao, rfl, aL⟩ := own_form aj
 have ac := ab.trans ad (fun x_ hx_ => .inl (List.mem_cons_of_mem _ hx_))
 refine ⟨_, rfl, ac, ?_⟩
 have ay := own_fr (own_fr hrS ah (by simp)) ad (aa.disj 0 2 rfl rfl (by decide))
 have az := own_fr (own_fr hrN ah (by simp)) ad (aa.disj 1 2 rfl rfl (by decide))
 have aA := own_fr (own_fr hrL ah (by simp)) ad (aa.disj 3 2 rfl rfl (by decide))
 have aB := svcsIn.fr (svcsIn.fr hin ah (by simp)) ad (aa.disj 4 2 rfl rfl (by decide))
 refine WDx 6 [(11, 5, .tuple #[.slice an ((putK kA V.sick c.v.dip c.v.up).length) ao, .bool (hasK kA (kA c.v.dip) V.sick)]), (12, 17, .slice an ((putK kA V.sick c.v.dip c.v.up).length) ao), (13, 18, .bool (hasK kA (kA c.v.dip) V.sick)), (14, 19, P0 p 0), (15, 20, P0 p 0), (16, 21, P0 p 4)] ac ?_
 obtain ⟨aQ, aC, af, ag⟩ := sto_run (c' := #[I6 V.epoch, I6 V.now, .slice AS xs.length cS, .slice AN V.snats.length cN, .slice an ((putK kA V.sick c.v.dip c.v.up).length) ao, .slice AL V.leases.length cL]) Tryz.prog ae 0 28 p 4 (.slice an ((putK kA V.sick c.v.dip c.v.up).length) ao) rfl (by kernel_rfl)
 have aD := ac.trans af (by first | (simp; done) | (simp [*]; done) | (have q_ := ac.size; simp; omega))
 refine WDu 17 aC aD (WDd (QXn (am _ _ (WCs (fun aR ap => WCg (WLq 1 [(22, .agg #[I6 0, U4 0, I6 0, U4 0, I6 0])] (WLv (c' := #[I6 0, U4 0, I6 0, U4 0, I6 0]) ag 2 52 g8 0 (.agg #[I6 0, U4 0, I6 0, U4 0, I6 0]) (fun aS ai aq => ?_))))))))
 have aE := own_fr (own_fr ay af (ae.apartM 0 0 rfl rfl)) ai (ag.apartM 0 2 rfl rfl)
 have aF := own_fr (own_fr az af (ae.apartM 1 0 rfl rfl)) ai (ag.apartM 1 2 rfl rfl)
 have aG := own_fr (own_fr aj af (ae.apartM 2 0 rfl rfl)) ai (ag.apartM 2 2 rfl rfl)
 have aH := own_fr (own_fr aA af (ae.apartM 3 0 rfl rfl)) ai (ag.apartM 3 2 rfl rfl)
 have aI := svcsIn.fr (svcsIn.fr aB af (ae.apartM 4 0 rfl rfl)) ai (ag.apartM 4 2 rfl rfl)
 refine WLd rfl (QXn (ap _ _ (WC.ret ?_)))
 refine (hret' _ _ (.agg #[I6 0, U4 0, I6 0, U4 0, I6 0]) (fun a ha => ?_) ?_).1
 ·
  exact res_run ha ((ResR.cell rfl (run_ld (aq.get 2 rfl) rfl) ResR.nil)) rfl
 clear hN hret hret' ap am hK2
 have aJ := Cx.pickM aq [0] [0, 1, 2, 3, 4] (by decide) rfl rfl
 obtain ⟨aK, ar, al⟩ := cfg_close (V := sickC V c.v.dip c.v.up) (xs := xs) aJ aE aF aG aH aI hvals
 exact ⟨_, rfl, ar, aK, al⟩

set_option maxHeartbeats 2000000 in
theorem service_ct (F : List Nat) (p : Nat) (V : CfgV) (n : Nat) (s : Svc) (w : World) (h : cfgAt w F p V) (hw : wfCfg V n) (hn : n ≤ 100000000000) (hs : svcAt w s) : Calls Tryz.prog 59 #[P0 p 0, .agg #[U4 s.v.vip, I6 s.v.proto, I6 s.v.port, .slice s.a s.v.ends.length s.c]] w fun e w' => ∃ F2, e = .returned (.agg #[I6 ((svcR V s.v).err), U4 ((svcR V s.v).lease.vip), I6 ((svcR V s.v).lease.first), U4 ((svcR V s.v).lease.dip), I6 ((svcR V s.v).lease.exp)]) ∧ Fr w w' F ∧ cfgAt w' F2 p (svcC V s.v) ∧ ∀ x ∈ F2, x ∈ F ∨ w.heap.size ≤ x := by
 refine enterD (n := 69) Tryz.func59 rfl rfl (Nat.le_of_ble_eq_true rfl) ?_
 intro Q0 hN hret hret'
 obtain ⟨AS, cS, xs, AN, cN, AK, cK, AL, cL, R, hC, hF_, hrS, hrN, hrK, hrL, hin, hvals⟩ := h
 have hssx_ : sortK kS xs := sortK_map (by rw [hvals]; exact hw.ssort)
 have hslx_ : V.svcs.length = xs.length := by rw [← hvals, List.length_map]
 have hws1_ := hw.sn
 have hws2_ := hw.nn
 have hws3_ := hw.kn
 have hws4_ := hw.ln
 have hws5_ := hw.ep0
 have hws6_ := hw.ep1
 have hws7_ := hw.now0
 have hws8_ := hw.now1
 refine WCs (fun K1 hK2 => WCg (WLb hC (.cells #[U4 s.v.vip, I6 s.v.proto, I6 s.v.port, .slice s.a s.v.ends.length s.c] 43) 3 (fun g3 w4 hb7 hF5 hC6 => WLb hC6 (.cells #[I6 0, U4 0, I6 0, U4 0, I6 0] 52) 4 (fun g8 w9 d1 d2 d3 => ?_))))
 have d4 := hF5.trans d2 (by simp)
 refine WLd rfl (QXn (hK2 _ _ (WCs (fun e1 aK => WC.drawC d3 [] (by kernel_rfl) (fun ez d5 cc aV => ?_)))))
 have cd := d4.trans d5 (by simp)
 refine WDx 4 [(0, 8, P0 p 0), (1, 9, P0 p 0), (2, 10, P0 p 0), (3, 11, P0 p 2)] aV (WDm 4 26 (P0 p 2) (.slice AS xs.length cS) 12 (fun _ hS_ => run_ld (Fr.has hS_ (cc.get 0 rfl) (by simp)) rfl) aV (WDm 5 43 (P0 g3 0) (.agg #[U4 s.v.vip, I6 s.v.proto, I6 s.v.port, .slice s.a s.v.ends.length s.c]) 13 (fun _ hS_ => run_ld (Fr.has hS_ (cc.get 1 rfl) (by simp)) rfl) aV (WDc 6 (BSFS_n AS xs.length cS xs s ez (own_rd (own_fr hrS cd (by simp)) cellsS_len (by decide)) (own_count cellsS_len (by decide) (own_fr hrS cd (by simp))) (hssx_) (by omega)) ?_)))
 rintro _ d0 ⟨rfl, ce⟩
 have a6 := aV.trans ce (by simp)
 refine ⟨_, rfl, a6, ?_⟩
 have aL := cc.call ce
 have aW := cd.trans ce (by simp)
 refine WDx 5 [(7, 7, .tuple #[I6 (rankK kS (kV s.v) xs : Int), .bool (hasK kS (kV s.v) xs)]), (8, 15, I6 (rankK kS (kV s.v) xs : Int)), (9, 16, .bool (hasK kS (kV s.v) xs)), (10, 5, I6 (rankK kS (kV s.v) xs : Int)), (11, 6, .bool (hasK kS (kV s.v) xs))] a6 (WDd (QXn (aK _ _ (WCs (fun e2 av => WCs (fun e3 aw => WCg (WLq 1 [(17, P0 g3 3)] ?_)))))))
 refine WLo 41 (P0 g3 3) (.slice s.a s.v.ends.length s.c) 18 (run_ld (aL.get 1 rfl) rfl) (WLz 3 [(21, .bool (decide ((s.v.ends.length : Int) > 0)))] (WLa 21 (decide ((s.v.ends.length : Int) > 0)) rfl (fun cf => ?_) (fun cf => ?_)))
 ·
  have eA : (0 : Int) < (s.v.ends.length : Int) := by have q_ := of_decide_eq_true cf; omega
  refine WLz 4 [(25, .bool (!(hasK kS (kV s.v) xs)))] (WLa 25 (!(hasK kS (kV s.v) xs)) rfl (fun aX => ?_) (fun aX => ?_))
  ·
   have bp : (hasK kS (kV s.v) xs) = false := by first | (simpa only [Bool.not_eq_true', Bool.not_eq_false'] using aX) | simpa using aX
   refine WLz 4 [(29, P0 p 2)] (WLo 26 (P0 p 2) (.slice AS xs.length cS) 30 (run_ld (aL.get 0 rfl) rfl) (WLz 3 [(33, .bool (decide ((xs.length : Int) ≥ 32)))] (WLd rfl (QXn (aw _ _ (WCa 33 (decide ((xs.length : Int) ≥ 32)) rfl (fun cg => ?_) (fun cg => ?_)))))))
   ·
    have eB : (32 : Int) ≤ (xs.length : Int) := by have q_ := of_decide_eq_true cg; omega
    refine WCt rfl (WCs (fun e4 cv => WCg (WLq 1 [(34, .iface 118 (I6 5))] (WLk (result_err 5 d0) ?_))))
    rintro _ e5 ⟨rfl, cw⟩
    refine ⟨_, rfl, ?_⟩
    have d6 := aL.call cw
    have d7 := aW.trans cw (by simp)
    refine WLv (c' := #[I6 5, U4 0, I6 0, U4 0, I6 0]) d6 2 52 g8 0 (.agg #[I6 5, U4 0, I6 0, U4 0, I6 0]) (fun e6 d8 cx => ?_)
    have a7 := d7.trans d8 (fun x_ h_ => .inr (by rw [List.mem_singleton] at h_; subst h_; exact (Nat.le_trans hF5.size d1)))
    refine WLd rfl (QXn (cv _ _ (WC.ret (QXr ?_))))
    refine (hret' _ _ (.agg #[I6 5, U4 0, I6 0, U4 0, I6 0]) (fun a ha => ?_) ?_).1
    ·
     exact res_run ha ((ResR.cell rfl (run_ld (cx.get 2 rfl) rfl) ResR.nil)) rfl
    clear hN hret hret' cv aw av aK hK2
    have d9 := Cx.pickM cx [0] [0, 1, 2, 3, 4] (by decide) rfl rfl
    obtain ⟨ea, cy, ch⟩ := cfg_close (V := V) (xs := xs) d9 (own_fr hrS a7 (by simp)) (own_fr hrN a7 (by simp)) (own_fr hrK a7 (by simp)) (own_fr hrL a7 (by simp)) (svcsIn.fr hin a7 (by simp)) hvals
    have hth_ : thereS V s.v = hasK kS (kV s.v) xs := by unfold thereS; rw [← hvals, hasK_map]
    have hc_ : 0 < s.v.ends.length ∧ thereS V s.v = false ∧ 32 ≤ V.svcs.length := ⟨by omega, by rw [hth_]; exact bp, by omega⟩
    have hR_ : svcR V s.v = errR 5 := by unfold svcR; rw [if_pos hc_]
    have hV_ : svcC V s.v = V := by unfold svcC; rw [if_pos hc_]
    rw [hR_, hV_]
    exact ⟨_, rfl, cy, ea, ch⟩
   ·
    have eB : (xs.length : Int) < 32 := by have q_ := of_decide_eq_false cg; omega
    refine WCf rfl (WC.skip (QXn (av _ _ (WCs (fun e7 ci => WCg (WLq 1 [(36, P0 g3 3)] (WLo 41 (P0 g3 3) (.slice s.a s.v.ends.length s.c) 37 (run_ld (aL.get 1 rfl) rfl) (WLk (CloneE_n s.a s.v.ends.length s.c s.v.ends d0 (Rd.fr hs.rd aW) rfl hs.lim) ?_))))))))
    rintro _ e8 ⟨aY, aZ, rfl, cz, cj⟩
    have cA := aL.callN cz (own_ge cj) (own_lt cj)
    have eb := own_base (b' := 0) cj (fun _ _ => Nat.zero_le _)
    refine ⟨_, rfl, ?_⟩
    have ec := aW.trans cz (by simp)
    refine WLq 1 [(39, P0 g3 3)] (WLv (c' := #[U4 s.v.vip, I6 s.v.proto, I6 s.v.port, .slice aY s.v.ends.length aZ]) cA 1 41 g3 3 (.slice aY s.v.ends.length aZ) (fun e9 cB ed => ?_))
    have ee := ec.trans cB (fun x_ h_ => .inr (by rw [List.mem_singleton] at h_; subst h_; exact hb7))
    have ef := own_fr eb cB (cA.apartM 5 1 rfl rfl)
    refine WLd rfl (QXn (ci _ _ (WCs (fun fa ck => WC.drawC ed (p :: blk (.slice AS xs.length cS)) (by kernel_rfl) (fun eC cC aq au => ?_)))))
    have a8 := ee.trans cC (by simp)
    have eg := own_fr ef cC (by simp)
    refine WDx 6 [(0, 41, P0 p 0), (1, 42, P0 p 0), (2, 43, P0 p 0), (3, 44, P0 p 0), (4, 45, P0 p 2), (7, 48, P0 g3 3)] au (WDm 6 43 (P0 g3 0) (.agg #[U4 s.v.vip, I6 s.v.proto, I6 s.v.port, .slice aY s.v.ends.length aZ]) 47 (fun _ hS_ => run_ld (Fr.has hS_ (aq.get 1 rfl) (fun h_ => (List.mem_cons.1 h_).elim (aq.ne 1 0 rfl rfl (by decide)) (aq.notin 0 1 rfl rfl))) rfl) au (WDm 8 41 (P0 g3 3) (.slice aY s.v.ends.length aZ) 49 (fun _ hS_ => run_ld (Fr.has hS_ (aq.get 1 rfl) (fun h_ => (List.mem_cons.1 h_).elim (aq.ne 1 0 rfl rfl (by decide)) (aq.notin 0 1 rfl rfl))) rfl) au (WDx 2 [(9, 50, I6 (s.v.ends.length : Int)), (10, 51, .bool ((s.v.ends.length : Int) == 0))] au (WD.recast (show (.bool ((s.v.ends.length : Int) == 0) : Value) = .bool (decide (s.v.ends.length = 0)) from by congr 1; rw [Bool.eq_iff_iff]; simp) (WD.sem 5 (Instr.loadAt 26 (P0 p 2)) 46 (.slice AS xs.length cS) (by kernel_rfl) (by kernel_rfl) (run_ld (aq.get 0 rfl) rfl) au ?_)))))
    refine WDc 11 (putS_ct AS xs.length cS xs (⟨s.v, aY, aZ⟩ : Svc) (decide (s.v.ends.length = 0)) eC (own_fr hrS a8 (by simp)) (hssx_) (by omega)) ?_
    rintro _ fb ⟨v_, rfl, a0, bq, cl⟩
    have ar := aq.callF 0 rfl a0 cl (own_lt bq)
    obtain ⟨cD, cE, rfl, ey⟩ := own_form bq
    have aM := au.trans a0 (fun x_ hx_ => .inl (List.mem_cons_of_mem _ hx_))
    refine ⟨_, rfl, aM, ?_⟩
    have cF := own_fr (own_fr hrN a8 (by simp)) a0 (aq.disj 1 0 rfl rfl (by decide))
    have cG := own_fr (own_fr hrK a8 (by simp)) a0 (aq.disj 2 0 rfl rfl (by decide))
    have cH := own_fr (own_fr hrL a8 (by simp)) a0 (aq.disj 3 0 rfl rfl (by decide))
    have cI := svcsIn.fr (svcsIn.fr hin a8 (by simp)) a0 (aq.disj 4 0 rfl rfl (by decide))
    have cJ := own_fr eg a0 (aq.disj 5 0 rfl rfl (by decide))
    refine WDx 6 [(12, 40, .tuple #[.slice cD ((putK kS xs (⟨s.v, aY, aZ⟩ : Svc) (decide (s.v.ends.length = 0))).length) cE, .bool (hasK kS (kV s.v) xs)]), (13, 53, .slice cD ((putK kS xs (⟨s.v, aY, aZ⟩ : Svc) (decide (s.v.ends.length = 0))).length) cE), (14, 54, .bool (hasK kS (kV s.v) xs)), (15, 55, P0 p 0), (16, 56, P0 p 0), (17, 57, P0 p 2)] aM ?_
    obtain ⟨eD, eh, aO, aN⟩ := sto_run (c' := #[I6 V.epoch, I6 V.now, .slice cD ((putK kS xs (⟨s.v, aY, aZ⟩ : Svc) (decide (s.v.ends.length = 0))).length) cE, .slice AN V.snats.length cN, .slice AK V.sick.length cK, .slice AL V.leases.length cL]) Tryz.prog ar 0 26 p 2 (.slice cD ((putK kS xs (⟨s.v, aY, aZ⟩ : Svc) (decide (s.v.ends.length = 0))).length) cE) rfl (by kernel_rfl)
    have cM := aM.trans aO (by first | (simp; done) | (simp [*]; done) | (have q_ := aM.size; simp; omega))
    refine WDu 18 eh cM (WDq 19 6 (.bool (hasK kS (kV s.v) xs)) cM (WDd (QXn (ck _ _ (WCs (fun fc cm => WCs (fun fd br => ?_)))))))
    refine WCg (WLq 1 [(58, P0 g3 3)] (WLo 41 (P0 g3 3) (.slice aY s.v.ends.length aZ) 59 (run_ld (aN.get 1 rfl) rfl) (WLz 2 [(61, .bool ((s.v.ends.length : Int) == 0))] (WLt (show (.bool ((s.v.ends.length : Int) == 0) : Value) = .bool (decide (s.v.ends.length = 0)) from by congr 1; rw [Bool.eq_iff_iff]; simp) (WLq 1 [(62, .bool (decide (s.v.ends.length = 0)))] (WLa 62 (decide (s.v.ends.length = 0)) rfl (fun cn => ?_) (fun cn => ?_)))))))
    ·
     have eE : s.v.ends.length = 0 := of_decide_eq_true cn
     refine WLz 3 [(65, .bool (!(hasK kS (kV s.v) xs)))] (WLd rfl (QXn (br _ _ (WC.know 65 (.bool (!(hasK kS (kV s.v) xs))) (.bool true) rfl (congrArg Value.bool (by exact aX)) (WCt rfl (WCs (fun fe cO => WCg (WLq 1 [(66, .iface 118 (I6 6))] (WLk (result_err 6 eD) ?_)))))))))
     rintro _ ff ⟨rfl, cP⟩
     refine ⟨_, rfl, ?_⟩
     have ax := aN.call cP
     have aB := aO.trans cP (by simp)
     refine WLv (c' := #[I6 6, U4 0, I6 0, U4 0, I6 0]) ax 2 52 g8 0 (.agg #[I6 6, U4 0, I6 0, U4 0, I6 0]) (fun ei aC bC => ?_)
     have cQ := own_fr (own_fr bq aB (ar.apartM 0 0 rfl rfl)) aC (ax.apartM 0 2 rfl rfl)
     have cR := own_fr (own_fr cF aB (ar.apartM 1 0 rfl rfl)) aC (ax.apartM 1 2 rfl rfl)
     have cT := own_fr (own_fr cG aB (ar.apartM 2 0 rfl rfl)) aC (ax.apartM 2 2 rfl rfl)
     have cU := own_fr (own_fr cH aB (ar.apartM 3 0 rfl rfl)) aC (ax.apartM 3 2 rfl rfl)
     have cV := svcsIn.fr (svcsIn.fr cI aB (ar.apartM 4 0 rfl rfl)) aC (ax.apartM 4 2 rfl rfl)
     have bD := own_fr (own_fr cJ aB (ar.apartM 5 0 rfl rfl)) aC (ax.apartM 5 2 rfl rfl)
     refine WLd rfl (QXn (cO _ _ (WC.ret (QXr ?_))))
     refine (hret' _ _ (.agg #[I6 6, U4 0, I6 0, U4 0, I6 0]) (fun a ha => ?_) ?_).1
     ·
      exact res_run ha ((ResR.cell rfl (run_ld (bC.get 2 rfl) rfl) ResR.nil)) rfl
     clear hN hret hret' cO br cm ck ci aw av aK hK2
     have hth_ : thereS V s.v = hasK kS (kV s.v) xs := by unfold thereS; rw [← hvals, hasK_map]
     have hc_ : ¬ (0 < s.v.ends.length ∧ thereS V s.v = false ∧ 32 ≤ V.svcs.length) := fun q_ => by obtain ⟨q1_, q2_, q3_⟩ := q_; rw [hth_] at q2_; first | omega | (exact absurd q2_ (by rw [bp]; decide))
     have hV_ : svcC V s.v = { V with svcs := putK kV V.svcs s.v (decide (s.v.ends.length = 0)) } := by unfold svcC; rw [if_neg hc_]
     rw [hV_]
     have hsv_ : svcAt ei (⟨s.v, aY, aZ⟩ : Svc) := ⟨own_rd bD cellsE_len (by decide), hs.wfe, hs.vip, hs.proto, hs.port, hs.lim, own_le bD⟩
     have cW := Cx_join bC 4 5 rfl rfl (by decide)
     have cX := Cx.pickM cW [0] [0, 1, 2, 3, 4] (by decide) rfl rfl
     obtain ⟨cY, co, bs⟩ := cfg_close (V := { V with svcs := putK kV V.svcs s.v (decide (s.v.ends.length = 0)) }) (xs := putK kS xs (⟨s.v, aY, aZ⟩ : Svc) (decide (s.v.ends.length = 0))) cX cQ cR cT cU (cV.put hssx_ hsv_) (by rw [putK_map, hvals])
     have hR_ : svcR V s.v = errR 6 := by unfold svcR; rw [if_neg hc_, if_pos ⟨by omega, by rw [hth_]; exact bp⟩]
     rw [hR_]
     exact ⟨_, rfl, co, cY, bs⟩
    ·
     have eE : ¬ (s.v.ends.length = 0) := of_decide_eq_false cn
     refine WLz 3 [(65, .bool false)] (WLd rfl (QXn (br _ _ (WCf rfl (WC.skip (QXn (cm _ _ (WCs (fun eF bE => WCg (WLq 1 [(68, .agg #[I6 0, U4 0, I6 0, U4 0, I6 0])] (WLv (c' := #[I6 0, U4 0, I6 0, U4 0, I6 0]) aN 2 52 g8 0 (.agg #[I6 0, U4 0, I6 0, U4 0, I6 0]) (fun ej aD bF => ?_))))))))))))
     have cZ := own_fr (own_fr bq aO (ar.apartM 0 0 rfl rfl)) aD (aN.apartM 0 2 rfl rfl)
     have c0 := own_fr (own_fr cF aO (ar.apartM 1 0 rfl rfl)) aD (aN.apartM 1 2 rfl rfl)
     have c1 := own_fr (own_fr cG aO (ar.apartM 2 0 rfl rfl)) aD (aN.apartM 2 2 rfl rfl)
     have c2 := own_fr (own_fr cH aO (ar.apartM 3 0 rfl rfl)) aD (aN.apartM 3 2 rfl rfl)
     have c3 := svcsIn.fr (svcsIn.fr cI aO (ar.apartM 4 0 rfl rfl)) aD (aN.apartM 4 2 rfl rfl)
     have bG := own_fr (own_fr cJ aO (ar.apartM 5 0 rfl rfl)) aD (aN.apartM 5 2 rfl rfl)
     refine WLd rfl (QXn (bE _ _ (WC.ret ?_)))
     refine (hret' _ _ (.agg #[I6 0, U4 0, I6 0, U4 0, I6 0]) (fun a ha => ?_) ?_).1
     ·
      exact res_run ha ((ResR.cell rfl (run_ld (bF.get 2 rfl) rfl) ResR.nil)) rfl
     clear hN hret hret' bE br cm ck ci aw av aK hK2
     have hth_ : thereS V s.v = hasK kS (kV s.v) xs := by unfold thereS; rw [← hvals, hasK_map]
     have hc_ : ¬ (0 < s.v.ends.length ∧ thereS V s.v = false ∧ 32 ≤ V.svcs.length) := fun q_ => by obtain ⟨q1_, q2_, q3_⟩ := q_; rw [hth_] at q2_; first | omega | (exact absurd q2_ (by rw [bp]; decide))
     have hV_ : svcC V s.v = { V with svcs := putK kV V.svcs s.v (decide (s.v.ends.length = 0)) } := by unfold svcC; rw [if_neg hc_]
     rw [hV_]
     have hsv_ : svcAt ej (⟨s.v, aY, aZ⟩ : Svc) := ⟨own_rd bG cellsE_len (by decide), hs.wfe, hs.vip, hs.proto, hs.port, hs.lim, own_le bG⟩
     have c4 := Cx_join bF 4 5 rfl rfl (by decide)
     have c5 := Cx.pickM c4 [0] [0, 1, 2, 3, 4] (by decide) rfl rfl
     obtain ⟨c6, cp, bt⟩ := cfg_close (V := { V with svcs := putK kV V.svcs s.v (decide (s.v.ends.length = 0)) }) (xs := putK kS xs (⟨s.v, aY, aZ⟩ : Svc) (decide (s.v.ends.length = 0))) c5 cZ c0 c1 c2 (c3.put hssx_ hsv_) (by rw [putK_map, hvals])
     have hR_ : svcR V s.v = okR := by unfold svcR; rw [if_neg hc_, if_neg (fun q_ => by obtain ⟨q1_, q2_⟩ := q_; rw [hth_] at q2_; first | omega | (exact absurd q2_ (by rw [bp]; decide)))]
     rw [hR_]
     exact ⟨_, rfl, cp, c6, bt⟩
  ·
   have bp : (hasK kS (kV s.v) xs) = true := by first | (simpa only [Bool.not_eq_true', Bool.not_eq_false'] using aX) | simpa using aX
   refine WLz 8 [(33, .bool false)] (WLd rfl (QXn (aw _ _ (WCf rfl (WC.skip (QXn (av _ _ (WCs (fun eG a9 => WCg (WLq 1 [(36, P0 g3 3)] (WLo 41 (P0 g3 3) (.slice s.a s.v.ends.length s.c) 37 (run_ld (aL.get 1 rfl) rfl) (WLk (CloneE_n s.a s.v.ends.length s.c s.v.ends d0 (Rd.fr hs.rd aW) rfl hs.lim) ?_))))))))))))
   rintro _ eH ⟨am, an, rfl, bH, ba⟩
   have bI := aL.callN bH (own_ge ba) (own_lt ba)
   have c7 := own_base (b' := 0) ba (fun _ _ => Nat.zero_le _)
   refine ⟨_, rfl, ?_⟩
   have c8 := aW.trans bH (by simp)
   refine WLq 1 [(39, P0 g3 3)] (WLv (c' := #[U4 s.v.vip, I6 s.v.proto, I6 s.v.port, .slice am s.v.ends.length an]) bI 1 41 g3 3 (.slice am s.v.ends.length an) (fun eI bJ c9 => ?_))
   have da := c8.trans bJ (fun x_ h_ => .inr (by rw [List.mem_singleton] at h_; subst h_; exact hb7))
   have db := own_fr c7 bJ (bI.apartM 5 1 rfl rfl)
   refine WLd rfl (QXn (a9 _ _ (WCs (fun eJ bb => WC.drawC c9 (p :: blk (.slice AS xs.length cS)) (by kernel_rfl) (fun ek bK ae ai => ?_)))))
   have aP := da.trans bK (by simp)
   have dc := own_fr db bK (by simp)
   refine WDx 6 [(0, 41, P0 p 0), (1, 42, P0 p 0), (2, 43, P0 p 0), (3, 44, P0 p 0), (4, 45, P0 p 2), (7, 48, P0 g3 3)] ai (WDm 6 43 (P0 g3 0) (.agg #[U4 s.v.vip, I6 s.v.proto, I6 s.v.port, .slice am s.v.ends.length an]) 47 (fun _ hS_ => run_ld (Fr.has hS_ (ae.get 1 rfl) (fun h_ => (List.mem_cons.1 h_).elim (ae.ne 1 0 rfl rfl (by decide)) (ae.notin 0 1 rfl rfl))) rfl) ai (WDm 8 41 (P0 g3 3) (.slice am s.v.ends.length an) 49 (fun _ hS_ => run_ld (Fr.has hS_ (ae.get 1 rfl) (fun h_ => (List.mem_cons.1 h_).elim (ae.ne 1 0 rfl rfl (by decide)) (ae.notin 0 1 rfl rfl))) rfl) ai (WDx 2 [(9, 50, I6 (s.v.ends.length : Int)), (10, 51, .bool ((s.v.ends.length : Int) == 0))] ai (WD.recast (show (.bool ((s.v.ends.length : Int) == 0) : Value) = .bool (decide (s.v.ends.length = 0)) from by congr 1; rw [Bool.eq_iff_iff]; simp) (WD.sem 5 (Instr.loadAt 26 (P0 p 2)) 46 (.slice AS xs.length cS) (by kernel_rfl) (by kernel_rfl) (run_ld (ae.get 0 rfl) rfl) ai ?_)))))
   refine WDc 11 (putS_ct AS xs.length cS xs (⟨s.v, am, an⟩ : Svc) (decide (s.v.ends.length = 0)) ek (own_fr hrS aP (by simp)) (hssx_) (by omega)) ?_
   rintro _ eK ⟨v_, rfl, ay, a1, bu⟩
   have af := ae.callF 0 rfl ay bu (own_lt a1)
   obtain ⟨bc, bd, rfl, em⟩ := own_form a1
   have ao := ai.trans ay (fun x_ hx_ => .inl (List.mem_cons_of_mem _ hx_))
   refine ⟨_, rfl, ao, ?_⟩
   have bL := own_fr (own_fr hrN aP (by simp)) ay (ae.disj 1 0 rfl rfl (by decide))
   have bM := own_fr (own_fr hrK aP (by simp)) ay (ae.disj 2 0 rfl rfl (by decide))
   have bN := own_fr (own_fr hrL aP (by simp)) ay (ae.disj 3 0 rfl rfl (by decide))
   have bO := svcsIn.fr (svcsIn.fr hin aP (by simp)) ay (ae.disj 4 0 rfl rfl (by decide))
   have bP := own_fr dc ay (ae.disj 5 0 rfl rfl (by decide))
   refine WDx 6 [(12, 40, .tuple #[.slice bc ((putK kS xs (⟨s.v, am, an⟩ : Svc) (decide (s.v.ends.length = 0))).length) bd, .bool (hasK kS (kV s.v) xs)]), (13, 53, .slice bc ((putK kS xs (⟨s.v, am, an⟩ : Svc) (decide (s.v.ends.length = 0))).length) bd), (14, 54, .bool (hasK kS (kV s.v) xs)), (15, 55, P0 p 0), (16, 56, P0 p 0), (17, 57, P0 p 2)] ao ?_
   obtain ⟨eL, dd, ag, ac⟩ := sto_run (c' := #[I6 V.epoch, I6 V.now, .slice bc ((putK kS xs (⟨s.v, am, an⟩ : Svc) (decide (s.v.ends.length = 0))).length) bd, .slice AN V.snats.length cN, .slice AK V.sick.length cK, .slice AL V.leases.length cL]) Tryz.prog af 0 26 p 2 (.slice bc ((putK kS xs (⟨s.v, am, an⟩ : Svc) (decide (s.v.ends.length = 0))).length) bd) rfl (by kernel_rfl)
   have bQ := ao.trans ag (by first | (simp; done) | (simp [*]; done) | (have q_ := ao.size; simp; omega))
   refine WDu 18 dd bQ (WDq 19 6 (.bool (hasK kS (kV s.v) xs)) bQ (WDd (QXn (bb _ _ (WCs (fun eM a2 => WCs (fun eN a3 => ?_)))))))
   refine WCg (WLq 1 [(58, P0 g3 3)] (WLo 41 (P0 g3 3) (.slice am s.v.ends.length an) 59 (run_ld (ac.get 1 rfl) rfl) (WLz 2 [(61, .bool ((s.v.ends.length : Int) == 0))] (WLt (show (.bool ((s.v.ends.length : Int) == 0) : Value) = .bool (decide (s.v.ends.length = 0)) from by congr 1; rw [Bool.eq_iff_iff]; simp) (WLq 1 [(62, .bool (decide (s.v.ends.length = 0)))] (WLa 62 (decide (s.v.ends.length = 0)) rfl (fun be => ?_) (fun be => ?_)))))))
   ·
    have en : s.v.ends.length = 0 := of_decide_eq_true be
    refine WLz 3 [(65, .bool (!(hasK kS (kV s.v) xs)))] (WLd rfl (QXn (a3 _ _ (WC.know 65 (.bool (!(hasK kS (kV s.v) xs))) (.bool false) rfl (congrArg Value.bool (by exact aX)) (WCf rfl (WC.skip (QXn (a2 _ _ (WCs (fun eO bR => WCg (WLq 1 [(68, .agg #[I6 0, U4 0, I6 0, U4 0, I6 0])] (WLv (c' := #[I6 0, U4 0, I6 0, U4 0, I6 0]) ac 2 52 g8 0 (.agg #[I6 0, U4 0, I6 0, U4 0, I6 0]) (fun eo aE bS => ?_)))))))))))))
    have de := own_fr (own_fr a1 ag (af.apartM 0 0 rfl rfl)) aE (ac.apartM 0 2 rfl rfl)
    have df := own_fr (own_fr bL ag (af.apartM 1 0 rfl rfl)) aE (ac.apartM 1 2 rfl rfl)
    have dg := own_fr (own_fr bM ag (af.apartM 2 0 rfl rfl)) aE (ac.apartM 2 2 rfl rfl)
    have dh := own_fr (own_fr bN ag (af.apartM 3 0 rfl rfl)) aE (ac.apartM 3 2 rfl rfl)
    have di := svcsIn.fr (svcsIn.fr bO ag (af.apartM 4 0 rfl rfl)) aE (ac.apartM 4 2 rfl rfl)
    have bT := own_fr (own_fr bP ag (af.apartM 5 0 rfl rfl)) aE (ac.apartM 5 2 rfl rfl)
    refine WLd rfl (QXn (bR _ _ (WC.ret ?_)))
    refine (hret' _ _ (.agg #[I6 0, U4 0, I6 0, U4 0, I6 0]) (fun a ha => ?_) ?_).1
    ·
     exact res_run ha ((ResR.cell rfl (run_ld (bS.get 2 rfl) rfl) ResR.nil)) rfl
    clear hN hret hret' bR a3 a2 bb a9 aw av aK hK2
    have hth_ : thereS V s.v = hasK kS (kV s.v) xs := by unfold thereS; rw [← hvals, hasK_map]
    have hc_ : ¬ (0 < s.v.ends.length ∧ thereS V s.v = false ∧ 32 ≤ V.svcs.length) := fun q_ => by obtain ⟨q1_, q2_, q3_⟩ := q_; rw [hth_] at q2_; first | omega | (exact absurd q2_ (by rw [bp]; decide))
    have hV_ : svcC V s.v = { V with svcs := putK kV V.svcs s.v (decide (s.v.ends.length = 0)) } := by unfold svcC; rw [if_neg hc_]
    rw [hV_]
    have hsv_ : svcAt eo (⟨s.v, am, an⟩ : Svc) := ⟨own_rd bT cellsE_len (by decide), hs.wfe, hs.vip, hs.proto, hs.port, hs.lim, own_le bT⟩
    have dj := Cx_join bS 4 5 rfl rfl (by decide)
    have dk := Cx.pickM dj [0] [0, 1, 2, 3, 4] (by decide) rfl rfl
    obtain ⟨dl, cq, bv⟩ := cfg_close (V := { V with svcs := putK kV V.svcs s.v (decide (s.v.ends.length = 0)) }) (xs := putK kS xs (⟨s.v, am, an⟩ : Svc) (decide (s.v.ends.length = 0))) dk de df dg dh (di.put hssx_ hsv_) (by rw [putK_map, hvals])
    have hR_ : svcR V s.v = okR := by unfold svcR; rw [if_neg hc_, if_neg (fun q_ => by obtain ⟨q1_, q2_⟩ := q_; rw [hth_] at q2_; first | omega | (exact absurd q2_ (by rw [bp]; decide)))]
    rw [hR_]
    exact ⟨_, rfl, cq, dl, bv⟩
   ·
    have en : ¬ (s.v.ends.length = 0) := of_decide_eq_false be
    refine WLz 3 [(65, .bool false)] (WLd rfl (QXn (a3 _ _ (WCf rfl (WC.skip (QXn (a2 _ _ (WCs (fun eP bU => WCg (WLq 1 [(68, .agg #[I6 0, U4 0, I6 0, U4 0, I6 0])] (WLv (c' := #[I6 0, U4 0, I6 0, U4 0, I6 0]) ac 2 52 g8 0 (.agg #[I6 0, U4 0, I6 0, U4 0, I6 0]) (fun ep aF bV => ?_))))))))))))
    have dm := own_fr (own_fr a1 ag (af.apartM 0 0 rfl rfl)) aF (ac.apartM 0 2 rfl rfl)
    have dn := own_fr (own_fr bL ag (af.apartM 1 0 rfl rfl)) aF (ac.apartM 1 2 rfl rfl)
    have dp := own_fr (own_fr bM ag (af.apartM 2 0 rfl rfl)) aF (ac.apartM 2 2 rfl rfl)
    have dq := own_fr (own_fr bN ag (af.apartM 3 0 rfl rfl)) aF (ac.apartM 3 2 rfl rfl)
    have dr := svcsIn.fr (svcsIn.fr bO ag (af.apartM 4 0 rfl rfl)) aF (ac.apartM 4 2 rfl rfl)
    have bW := own_fr (own_fr bP ag (af.apartM 5 0 rfl rfl)) aF (ac.apartM 5 2 rfl rfl)
    refine WLd rfl (QXn (bU _ _ (WC.ret ?_)))
    refine (hret' _ _ (.agg #[I6 0, U4 0, I6 0, U4 0, I6 0]) (fun a ha => ?_) ?_).1
    ·
     exact res_run ha ((ResR.cell rfl (run_ld (bV.get 2 rfl) rfl) ResR.nil)) rfl
    clear hN hret hret' bU a3 a2 bb a9 aw av aK hK2
    have hth_ : thereS V s.v = hasK kS (kV s.v) xs := by unfold thereS; rw [← hvals, hasK_map]
    have hc_ : ¬ (0 < s.v.ends.length ∧ thereS V s.v = false ∧ 32 ≤ V.svcs.length) := fun q_ => by obtain ⟨q1_, q2_, q3_⟩ := q_; rw [hth_] at q2_; first | omega | (exact absurd q2_ (by rw [bp]; decide))
    have hV_ : svcC V s.v = { V with svcs := putK kV V.svcs s.v (decide (s.v.ends.length = 0)) } := by unfold svcC; rw [if_neg hc_]
    rw [hV_]
    have hsv_ : svcAt ep (⟨s.v, am, an⟩ : Svc) := ⟨own_rd bW cellsE_len (by decide), hs.wfe, hs.vip, hs.proto, hs.port, hs.lim, own_le bW⟩
    have ds := Cx_join bV 4 5 rfl rfl (by decide)
    have dt := Cx.pickM ds [0] [0, 1, 2, 3, 4] (by decide) rfl rfl
    obtain ⟨du, cr, bw⟩ := cfg_close (V := { V with svcs := putK kV V.svcs s.v (decide (s.v.ends.length = 0)) }) (xs := putK kS xs (⟨s.v, am, an⟩ : Svc) (decide (s.v.ends.length = 0))) dt dm dn dp dq (dr.put hssx_ hsv_) (by rw [putK_map, hvals])
    have hR_ : svcR V s.v = okR := by unfold svcR; rw [if_neg hc_, if_neg (fun q_ => by obtain ⟨q1_, q2_⟩ := q_; rw [hth_] at q2_; first | omega | (exact absurd q2_ (by rw [bp]; decide)))]
    rw [hR_]
    exact ⟨_, rfl, cr, du, bw⟩
 ·
  have eA : (s.v.ends.length : Int) ≤ 0 := by have q_ := of_decide_eq_false cf; omega
  refine WLz 12 [(33, .bool false)] (WLd rfl (QXn (aw _ _ (WCf rfl (WC.skip (QXn (av _ _ (WCs (fun eQ a4 => WCg (WLq 1 [(36, P0 g3 3)] (WLo 41 (P0 g3 3) (.slice s.a s.v.ends.length s.c) 37 (run_ld (aL.get 1 rfl) rfl) (WLk (CloneE_n s.a s.v.ends.length s.c s.v.ends d0 (Rd.fr hs.rd aW) rfl hs.lim) ?_))))))))))))
  rintro _ eR ⟨ak, al, rfl, bX, bf⟩
  have bY := aL.callN bX (own_ge bf) (own_lt bf)
  have dv := own_base (b' := 0) bf (fun _ _ => Nat.zero_le _)
  refine ⟨_, rfl, ?_⟩
  have dw := aW.trans bX (by simp)
  refine WLq 1 [(39, P0 g3 3)] (WLv (c' := #[U4 s.v.vip, I6 s.v.proto, I6 s.v.port, .slice ak s.v.ends.length al]) bY 1 41 g3 3 (.slice ak s.v.ends.length al) (fun eS bZ dx => ?_))
  have dy := dw.trans bZ (fun x_ h_ => .inr (by rw [List.mem_singleton] at h_; subst h_; exact hb7))
  have dz := own_fr dv bZ (bY.apartM 5 1 rfl rfl)
  refine WLd rfl (QXn (a4 _ _ (WCs (fun eT a5 => WC.drawC dx (p :: blk (.slice AS xs.length cS)) (by kernel_rfl) (fun er b0 ah aj => ?_)))))
  have aQ := dy.trans b0 (by simp)
  have dA := own_fr dz b0 (by simp)
  refine WDx 6 [(0, 41, P0 p 0), (1, 42, P0 p 0), (2, 43, P0 p 0), (3, 44, P0 p 0), (4, 45, P0 p 2), (7, 48, P0 g3 3)] aj (WDm 6 43 (P0 g3 0) (.agg #[U4 s.v.vip, I6 s.v.proto, I6 s.v.port, .slice ak s.v.ends.length al]) 47 (fun _ hS_ => run_ld (Fr.has hS_ (ah.get 1 rfl) (fun h_ => (List.mem_cons.1 h_).elim (ah.ne 1 0 rfl rfl (by decide)) (ah.notin 0 1 rfl rfl))) rfl) aj (WDm 8 41 (P0 g3 3) (.slice ak s.v.ends.length al) 49 (fun _ hS_ => run_ld (Fr.has hS_ (ah.get 1 rfl) (fun h_ => (List.mem_cons.1 h_).elim (ah.ne 1 0 rfl rfl (by decide)) (ah.notin 0 1 rfl rfl))) rfl) aj (WDx 2 [(9, 50, I6 (s.v.ends.length : Int)), (10, 51, .bool ((s.v.ends.length : Int) == 0))] aj (WD.recast (show (.bool ((s.v.ends.length : Int) == 0) : Value) = .bool (decide (s.v.ends.length = 0)) from by congr 1; rw [Bool.eq_iff_iff]; simp) (WD.sem 5 (Instr.loadAt 26 (P0 p 2)) 46 (.slice AS xs.length cS) (by kernel_rfl) (by kernel_rfl) (run_ld (ah.get 0 rfl) rfl) aj ?_)))))
  refine WDc 11 (putS_ct AS xs.length cS xs (⟨s.v, ak, al⟩ : Svc) (decide (s.v.ends.length = 0)) er (own_fr hrS aQ (by simp)) (hssx_) (by omega)) ?_
  rintro _ eU ⟨v_, rfl, az, aR, bx⟩
  have aa := ah.callF 0 rfl az bx (own_lt aR)
  obtain ⟨bg, bh, rfl, es⟩ := own_form aR
  have ap := aj.trans az (fun x_ hx_ => .inl (List.mem_cons_of_mem _ hx_))
  refine ⟨_, rfl, ap, ?_⟩
  have bi := own_fr (own_fr hrN aQ (by simp)) az (ah.disj 1 0 rfl rfl (by decide))
  have bj := own_fr (own_fr hrK aQ (by simp)) az (ah.disj 2 0 rfl rfl (by decide))
  have bk := own_fr (own_fr hrL aQ (by simp)) az (ah.disj 3 0 rfl rfl (by decide))
  have bl := svcsIn.fr (svcsIn.fr hin aQ (by simp)) az (ah.disj 4 0 rfl rfl (by decide))
  have bm := own_fr dA az (ah.disj 5 0 rfl rfl (by decide))
  refine WDx 6 [(12, 40, .tuple #[.slice bg ((putK kS xs (⟨s.v, ak, al⟩ : Svc) (decide (s.v.ends.length = 0))).length) bh, .bool (hasK kS (kV s.v) xs)]), (13, 53, .slice bg ((putK kS xs (⟨s.v, ak, al⟩ : Svc) (decide (s.v.ends.length = 0))).length) bh), (14, 54, .bool (hasK kS (kV s.v) xs)), (15, 55, P0 p 0), (16, 56, P0 p 0), (17, 57, P0 p 2)] ap ?_
  obtain ⟨et, dB, ad, ab⟩ := sto_run (c' := #[I6 V.epoch, I6 V.now, .slice bg ((putK kS xs (⟨s.v, ak, al⟩ : Svc) (decide (s.v.ends.length = 0))).length) bh, .slice AN V.snats.length cN, .slice AK V.sick.length cK, .slice AL V.leases.length cL]) Tryz.prog aa 0 26 p 2 (.slice bg ((putK kS xs (⟨s.v, ak, al⟩ : Svc) (decide (s.v.ends.length = 0))).length) bh) rfl (by kernel_rfl)
  have b1 := ap.trans ad (by first | (simp; done) | (simp [*]; done) | (have q_ := ap.size; simp; omega))
  refine WDu 18 dB b1 (WDq 19 6 (.bool (hasK kS (kV s.v) xs)) b1 (WDd (QXn (a5 _ _ (WCs (fun eV aS => WCs (fun eW aT => ?_)))))))
  refine WCg (WLq 1 [(58, P0 g3 3)] (WLo 41 (P0 g3 3) (.slice ak s.v.ends.length al) 59 (run_ld (ab.get 1 rfl) rfl) (WLz 2 [(61, .bool ((s.v.ends.length : Int) == 0))] (WLt (show (.bool ((s.v.ends.length : Int) == 0) : Value) = .bool (decide (s.v.ends.length = 0)) from by congr 1; rw [Bool.eq_iff_iff]; simp) (WLq 1 [(62, .bool (decide (s.v.ends.length = 0)))] (WLa 62 (decide (s.v.ends.length = 0)) rfl (fun bn => ?_) (fun bn => ?_)))))))
  ·
   have eu : s.v.ends.length = 0 := of_decide_eq_true bn
   refine WLz 3 [(65, .bool (!(hasK kS (kV s.v) xs)))] (WLd rfl (QXn (aT _ _ (WCa 65 (!(hasK kS (kV s.v) xs)) rfl (fun aU => ?_) (fun aU => ?_)))))
   ·
    have bo : (hasK kS (kV s.v) xs) = false := by first | (simpa only [Bool.not_eq_true', Bool.not_eq_false'] using aU) | simpa using aU
    refine WCt rfl (WCs (fun eX b2 => WCg (WLq 1 [(66, .iface 118 (I6 6))] (WLk (result_err 6 et) ?_))))
    rintro _ eY ⟨rfl, b3⟩
    refine ⟨_, rfl, ?_⟩
    have aA := ab.call b3
    have aG := ad.trans b3 (by simp)
    refine WLv (c' := #[I6 6, U4 0, I6 0, U4 0, I6 0]) aA 2 52 g8 0 (.agg #[I6 6, U4 0, I6 0, U4 0, I6 0]) (fun ev aH b4 => ?_)
    have dC := own_fr (own_fr aR aG (aa.apartM 0 0 rfl rfl)) aH (aA.apartM 0 2 rfl rfl)
    have dD := own_fr (own_fr bi aG (aa.apartM 1 0 rfl rfl)) aH (aA.apartM 1 2 rfl rfl)
    have dE := own_fr (own_fr bj aG (aa.apartM 2 0 rfl rfl)) aH (aA.apartM 2 2 rfl rfl)
    have dF := own_fr (own_fr bk aG (aa.apartM 3 0 rfl rfl)) aH (aA.apartM 3 2 rfl rfl)
    have dG := svcsIn.fr (svcsIn.fr bl aG (aa.apartM 4 0 rfl rfl)) aH (aA.apartM 4 2 rfl rfl)
    have b5 := own_fr (own_fr bm aG (aa.apartM 5 0 rfl rfl)) aH (aA.apartM 5 2 rfl rfl)
    refine WLd rfl (QXn (b2 _ _ (WC.ret (QXr ?_))))
    refine (hret' _ _ (.agg #[I6 6, U4 0, I6 0, U4 0, I6 0]) (fun a ha => ?_) ?_).1
    ·
     exact res_run ha ((ResR.cell rfl (run_ld (b4.get 2 rfl) rfl) ResR.nil)) rfl
    clear hN hret hret' b2 aT aS a5 a4 aw av aK hK2
    have hth_ : thereS V s.v = hasK kS (kV s.v) xs := by unfold thereS; rw [← hvals, hasK_map]
    have hc_ : ¬ (0 < s.v.ends.length ∧ thereS V s.v = false ∧ 32 ≤ V.svcs.length) := fun q_ => by obtain ⟨q1_, q2_, q3_⟩ := q_; rw [hth_] at q2_; first | omega | (exact absurd q2_ (by rw [bo]; decide))
    have hV_ : svcC V s.v = { V with svcs := putK kV V.svcs s.v (decide (s.v.ends.length = 0)) } := by unfold svcC; rw [if_neg hc_]
    rw [hV_]
    have hsv_ : svcAt ev (⟨s.v, ak, al⟩ : Svc) := ⟨own_rd b5 cellsE_len (by decide), hs.wfe, hs.vip, hs.proto, hs.port, hs.lim, own_le b5⟩
    have dH := Cx_join b4 4 5 rfl rfl (by decide)
    have dI := Cx.pickM dH [0] [0, 1, 2, 3, 4] (by decide) rfl rfl
    obtain ⟨dJ, cs, bz⟩ := cfg_close (V := { V with svcs := putK kV V.svcs s.v (decide (s.v.ends.length = 0)) }) (xs := putK kS xs (⟨s.v, ak, al⟩ : Svc) (decide (s.v.ends.length = 0))) dI dC dD dE dF (dG.put hssx_ hsv_) (by rw [putK_map, hvals])
    have hR_ : svcR V s.v = errR 6 := by unfold svcR; rw [if_neg hc_, if_pos ⟨by omega, by rw [hth_]; exact bo⟩]
    rw [hR_]
    exact ⟨_, rfl, cs, dJ, bz⟩
   ·
    have bo : (hasK kS (kV s.v) xs) = true := by first | (simpa only [Bool.not_eq_true', Bool.not_eq_false'] using aU) | simpa using aU
    refine WCf rfl (WC.skip (QXn (aS _ _ (WCs (fun eZ b6 => WCg (WLq 1 [(68, .agg #[I6 0, U4 0, I6 0, U4 0, I6 0])] (WLv (c' := #[I6 0, U4 0, I6 0, U4 0, I6 0]) ab 2 52 g8 0 (.agg #[I6 0, U4 0, I6 0, U4 0, I6 0]) (fun ew aI b7 => ?_))))))))
    have dK := own_fr (own_fr aR ad (aa.apartM 0 0 rfl rfl)) aI (ab.apartM 0 2 rfl rfl)
    have dL := own_fr (own_fr bi ad (aa.apartM 1 0 rfl rfl)) aI (ab.apartM 1 2 rfl rfl)
    have dM := own_fr (own_fr bj ad (aa.apartM 2 0 rfl rfl)) aI (ab.apartM 2 2 rfl rfl)
    have dN := own_fr (own_fr bk ad (aa.apartM 3 0 rfl rfl)) aI (ab.apartM 3 2 rfl rfl)
    have dO := svcsIn.fr (svcsIn.fr bl ad (aa.apartM 4 0 rfl rfl)) aI (ab.apartM 4 2 rfl rfl)
    have b8 := own_fr (own_fr bm ad (aa.apartM 5 0 rfl rfl)) aI (ab.apartM 5 2 rfl rfl)
    refine WLd rfl (QXn (b6 _ _ (WC.ret ?_)))
    refine (hret' _ _ (.agg #[I6 0, U4 0, I6 0, U4 0, I6 0]) (fun a ha => ?_) ?_).1
    ·
     exact res_run ha ((ResR.cell rfl (run_ld (b7.get 2 rfl) rfl) ResR.nil)) rfl
    clear hN hret hret' b6 aT aS a5 a4 aw av aK hK2
    have hth_ : thereS V s.v = hasK kS (kV s.v) xs := by unfold thereS; rw [← hvals, hasK_map]
    have hc_ : ¬ (0 < s.v.ends.length ∧ thereS V s.v = false ∧ 32 ≤ V.svcs.length) := fun q_ => by obtain ⟨q1_, q2_, q3_⟩ := q_; rw [hth_] at q2_; first | omega | (exact absurd q2_ (by rw [bo]; decide))
    have hV_ : svcC V s.v = { V with svcs := putK kV V.svcs s.v (decide (s.v.ends.length = 0)) } := by unfold svcC; rw [if_neg hc_]
    rw [hV_]
    have hsv_ : svcAt ew (⟨s.v, ak, al⟩ : Svc) := ⟨own_rd b8 cellsE_len (by decide), hs.wfe, hs.vip, hs.proto, hs.port, hs.lim, own_le b8⟩
    have dP := Cx_join b7 4 5 rfl rfl (by decide)
    have dQ := Cx.pickM dP [0] [0, 1, 2, 3, 4] (by decide) rfl rfl
    obtain ⟨dR, ct, bA⟩ := cfg_close (V := { V with svcs := putK kV V.svcs s.v (decide (s.v.ends.length = 0)) }) (xs := putK kS xs (⟨s.v, ak, al⟩ : Svc) (decide (s.v.ends.length = 0))) dQ dK dL dM dN (dO.put hssx_ hsv_) (by rw [putK_map, hvals])
    have hR_ : svcR V s.v = okR := by unfold svcR; rw [if_neg hc_, if_neg (fun q_ => by obtain ⟨q1_, q2_⟩ := q_; rw [hth_] at q2_; first | omega | (exact absurd q2_ (by rw [bo]; decide)))]
    rw [hR_]
    exact ⟨_, rfl, ct, dR, bA⟩
  ·
   have eu : ¬ (s.v.ends.length = 0) := of_decide_eq_false bn
   refine WLz 3 [(65, .bool false)] (WLd rfl (QXn (aT _ _ (WCf rfl (WC.skip (QXn (aS _ _ (WCs (fun e0 b9 => WCg (WLq 1 [(68, .agg #[I6 0, U4 0, I6 0, U4 0, I6 0])] (WLv (c' := #[I6 0, U4 0, I6 0, U4 0, I6 0]) ab 2 52 g8 0 (.agg #[I6 0, U4 0, I6 0, U4 0, I6 0]) (fun ex aJ ca => ?_))))))))))))
   have dS := own_fr (own_fr aR ad (aa.apartM 0 0 rfl rfl)) aJ (ab.apartM 0 2 rfl rfl)
   have dT := own_fr (own_fr bi ad (aa.apartM 1 0 rfl rfl)) aJ (ab.apartM 1 2 rfl rfl)
   have dU := own_fr (own_fr bj ad (aa.apartM 2 0 rfl rfl)) aJ (ab.apartM 2 2 rfl rfl)
   have dV := own_fr (own_fr bk ad (aa.apartM 3 0 rfl rfl)) aJ (ab.apartM 3 2 rfl rfl)
   have dW := svcsIn.fr (svcsIn.fr bl ad (aa.apartM 4 0 rfl rfl)) aJ (ab.apartM 4 2 rfl rfl)
   have cb := own_fr (own_fr bm ad (aa.apartM 5 0 rfl rfl)) aJ (ab.apartM 5 2 rfl rfl)
   refine WLd rfl (QXn (b9 _ _ (WC.ret ?_)))
   refine (hret' _ _ (.agg #[I6 0, U4 0, I6 0, U4 0, I6 0]) (fun a ha => ?_) ?_).1
   ·
    exact res_run ha ((ResR.cell rfl (run_ld (ca.get 2 rfl) rfl) ResR.nil)) rfl
   clear hN hret hret' b9 aT aS a5 a4 aw av aK hK2
   have hth_ : thereS V s.v = hasK kS (kV s.v) xs := by unfold thereS; rw [← hvals, hasK_map]
   have hc_ : ¬ (0 < s.v.ends.length ∧ thereS V s.v = false ∧ 32 ≤ V.svcs.length) := fun q_ => by obtain ⟨q1_, q2_, q3_⟩ := q_; rw [hth_] at q2_; first | omega
   have hV_ : svcC V s.v = { V with svcs := putK kV V.svcs s.v (decide (s.v.ends.length = 0)) } := by unfold svcC; rw [if_neg hc_]
   rw [hV_]
   have hsv_ : svcAt ex (⟨s.v, ak, al⟩ : Svc) := ⟨own_rd cb cellsE_len (by decide), hs.wfe, hs.vip, hs.proto, hs.port, hs.lim, own_le cb⟩
   have dX := Cx_join ca 4 5 rfl rfl (by decide)
   have dY := Cx.pickM dX [0] [0, 1, 2, 3, 4] (by decide) rfl rfl
   obtain ⟨dZ, cu, bB⟩ := cfg_close (V := { V with svcs := putK kV V.svcs s.v (decide (s.v.ends.length = 0)) }) (xs := putK kS xs (⟨s.v, ak, al⟩ : Svc) (decide (s.v.ends.length = 0))) dY dS dT dU dV (dW.put hssx_ hsv_) (by rw [putK_map, hvals])
   have hR_ : svcR V s.v = okR := by unfold svcR; rw [if_neg hc_, if_neg (fun q_ => by obtain ⟨q1_, q2_⟩ := q_; rw [hth_] at q2_; first | omega)]
   rw [hR_]
   exact ⟨_, rfl, cu, dZ, bB⟩

end Go.Proofs.YtfligklljkcbfaaGreatDoor
