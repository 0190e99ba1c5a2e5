/- Contracts of functions of the program, each proved by a walk through its code; conditions stand in the statements. -/
import Derived.Test.YtfligklljkcbfaaGreatDoorStM16
namespace Go.Proofs.YtfligklljkcbfaaGreatDoor
set_option linter.unusedSimpArgs false
set_option linter.unusedVariables false
set_option linter.unusedSectionVars false
open Go Go.RowKit Go.Tw
set_option linter.unusedVariables false
set_option maxRecDepth 20000
theorem Cx_join {w0 w : World} {F0 : List Nat} {M : List (Nat × Obj)} {Fs : List (List Nat)} (h : Cx w0 F0 w M Fs) (i j : Nat) {A B : List Nat} (hi : Fs[i]? = some A) (hj : Fs[j]? = some B) (hij : i ≠ j) : Cx w0 F0 w M ((Fs.set i (A ++ B)).set j []) := by
  have hli := (List.getElem?_eq_some_iff.1 hi).1
  have hlj := (List.getElem?_eq_some_iff.1 hj).1
  have at_ : ∀ a G, ((Fs.set i (A ++ B)).set j [])[a]? = some G → ∀ x ∈ G, a ≠ j ∧ ∃ a' G', Fs[a']? = some G' ∧ x ∈ G' ∧ (a' = a ∨ (a = i ∧ a' = j)) := by
    intro a G hG x hx
    by_cases e : a = j
    · subst e
      rw [List.getElem?_set_self (by rw [List.length_set]; exact hlj)] at hG
      cases hG; cases hx
    · rw [List.getElem?_set_ne (Ne.symm e)] at hG
      refine ⟨e, ?_⟩
      by_cases e2 : a = i
      · subst e2
        rw [List.getElem?_set_self hli] at hG
        cases hG
        rcases List.mem_append.1 hx with hx | hx
        · exact ⟨a, A, hi, hx, .inl rfl⟩
        · exact ⟨j, B, hj, hx, .inr ⟨rfl, rfl⟩⟩
      · rw [List.getElem?_set_ne (Ne.symm e2)] at hG
        exact ⟨a, G, hG, hx, .inl rfl⟩
  have mem_ : ∀ G ∈ (Fs.set i (A ++ B)).set j [], ∀ x ∈ G, ∃ G' ∈ Fs, x ∈ G' := by
    intro G hG x hx
    obtain ⟨a, ha⟩ := List.getElem?_of_mem hG
    obtain ⟨_, a', G', h1, h2, _⟩ := at_ a G ha x hx
    exact ⟨G', List.mem_of_getElem? h1, h2⟩
  refine ⟨h.fr, h.has, h.nodup, ?_, ?_, ?_, h.ownM, ?_⟩
  · rw [List.pairwise_iff_getElem]
    intro a b ha hb hab x hx hx2
    obtain ⟨n1, a', G1, g1, m1, q1⟩ := at_ a _ (List.getElem?_eq_getElem ha) x hx
    obtain ⟨n2, b', G2, g2, m2, q2⟩ := at_ b _ (List.getElem?_eq_getElem hb) x hx2
    have hne : a' ≠ b' := by rcases q1 with rfl | ⟨rfl, rfl⟩ <;> rcases q2 with rfl | ⟨rfl, rfl⟩ <;> omega
    exact h.disj a' b' g1 g2 hne x m1 m2
  · intro G hG p hp hx
    obtain ⟨G', h1, h2⟩ := mem_ G hG _ hx
    exact h.apart G' h1 p hp h2
  · intro G hG x hx
    obtain ⟨G', h1, h2⟩ := mem_ G hG x hx
    exact h.bound G' h1 x h2
  · intro G hG x hx
    obtain ⟨G', h1, h2⟩ := mem_ G hG x hx
    exact h.ownF G' h1 x h2

theorem Cx_sw5 {w0 w : World} {F0 : List Nat} {M : List (Nat × Obj)} {A B C D R : List Nat} (h : Cx w0 F0 w M [A, B, C, R, D]) : Cx w0 F0 w M [A, B, C, D, R] := by
  have hs := h.sep
  have h1 := h.apart
  have h2 := h.bound
  have h3 := h.ownF
  simp only [List.pairwise_cons, List.mem_cons, List.not_mem_nil, or_false, forall_eq_or_imp, forall_eq, false_imp_iff, implies_true, List.Pairwise.nil, and_true] at hs h1 h2 h3
  refine ⟨h.fr, h.has, h.nodup, ?_, ?_, ?_, h.ownM, ?_⟩
  · simp only [List.pairwise_cons, List.mem_cons, List.not_mem_nil, or_false, forall_eq_or_imp, forall_eq, false_imp_iff, implies_true, List.Pairwise.nil, and_true]
    obtain ⟨⟨a1, a2, a3, a4⟩, ⟨b1, b2, b3⟩, ⟨c1, c2⟩, d1⟩ := hs
    exact ⟨⟨a1, a2, a4, a3⟩, ⟨b1, b3, b2⟩, ⟨c2, c1⟩, fun x hx hx2 => d1 x hx2 hx⟩
  · simp only [List.mem_cons, List.not_mem_nil, or_false, forall_eq_or_imp, forall_eq]
    exact ⟨h1.1, h1.2.1, h1.2.2.1, h1.2.2.2.2, h1.2.2.2.1⟩
  · simp only [List.mem_cons, List.not_mem_nil, or_false, forall_eq_or_imp, forall_eq]
    exact ⟨h2.1, h2.2.1, h2.2.2.1, h2.2.2.2.2, h2.2.2.2.1⟩
  · simp only [List.mem_cons, List.not_mem_nil, or_false, forall_eq_or_imp, forall_eq]
    exact ⟨h3.1, h3.2.1, h3.2.2.1, h3.2.2.2.2, h3.2.2.2.1⟩
theorem Cx.reset5 {w0 w : World} {F0 : List Nat} {p : Nat} {o : Obj} {A B C D R : List Nat} (h : Cx w0 F0 w [(p, o)] [A, B, C, D, R]) : Cx w (p :: (A ++ (B ++ (C ++ (D ++ R))))) w [(p, o)] [A, B, C, D, R] :=
  ⟨.refl _ _, h.has, h.nodup, h.sep, h.apart, h.bound, by simp, by
    intro X hX x hx
    refine .inl (List.mem_cons_of_mem _ ?_)
    simp only [List.mem_append]
    simp only [List.mem_cons, List.not_mem_nil, or_false] at hX
    rcases hX with rfl | rfl | rfl | rfl | rfl
    · exact .inl hx
    · exact .inr (.inl hx)
    · exact .inr (.inr (.inl hx))
    · exact .inr (.inr (.inr (.inl hx)))
    · exact .inr (.inr (.inr (.inr hx)))⟩
theorem Cx.subs5 {w0 w : World} {F0 : List Nat} {p : Nat} {o : Obj} {A B C D R : List Nat} (h : Cx w0 F0 w [(p, o)] [A, B, C, D, R]) : ∀ x ∈ p :: (A ++ (B ++ (C ++ (D ++ R)))), x ∈ F0 ∨ w0.heap.size ≤ x := by
  intro x hx
  simp only [List.mem_cons, List.mem_append] at hx
  rcases hx with rfl | hx | hx | hx | hx | hx
  · exact h.ownM (x, o) (by simp)
  · exact h.ownF A (by simp) x hx
  · exact h.ownF B (by simp) x hx
  · exact h.ownF C (by simp) x hx
  · exact h.ownF D (by simp) x hx
  · exact h.ownF R (by simp) x hx
theorem Cx.lts5 {w0 w : World} {F0 : List Nat} {p : Nat} {o : Obj} {A B C D R : List Nat} (h : Cx w0 F0 w [(p, o)] [A, B, C, D, R]) : ∀ x ∈ p :: (A ++ (B ++ (C ++ (D ++ R)))), x < w.heap.size := by
  intro x hx
  simp only [List.mem_cons, List.mem_append] at hx
  rcases hx with rfl | hx | hx | hx | hx | hx
  · exact h.lt (p := (x, o)) (by simp)
  · exact h.bound A (by simp) x hx
  · exact h.bound B (by simp) x hx
  · exact h.bound C (by simp) x hx
  · exact h.bound D (by simp) x hx
  · exact h.bound R (by simp) x hx
theorem Cx.move5 {w w' : World} {F0 G : List Nat} {p : Nat} {o : Obj} {A B C D R : List Nat} (h : Cx w F0 w [(p, o)] [A, B, C, D, R]) (hf : Fr w w' G) (hp : p ∉ G) : Cx w' F0 w' [(p, o)] [A, B, C, D, R] :=
  ⟨.refl _ _, fun q hq => by rw [List.mem_singleton] at hq; subst hq; exact hf.has (h.has _ (by simp)) hp, h.nodup, h.sep, h.apart, fun F hF x hx => Nat.lt_of_lt_of_le (h.bound F hF x hx) hf.size,
    fun q hq => .inl ((h.ownM q hq).resolve_right (fun hge => by have := h.lt hq; omega)), fun F hF x hx => .inl ((h.ownF F hF x hx).resolve_right (fun hge => by have := h.bound F hF x hx; omega))⟩
def cfgAt (w : World) (F : List Nat) (p : Nat) (V : CfgV) : Prop :=
  ∃ (AS : Option Addr) (cS : Nat) (xs : List Svc) (AN : Option Addr) (cN : Nat) (AK : Option Addr) (cK : Nat) (AL : Option Addr) (cL : Nat) (R : List Nat),
    Cx w F w [(p, .cells #[.int .i64 V.epoch, .int .i64 V.now, .slice AS xs.length cS, .slice AN V.snats.length cN, .slice AK V.sick.length cK, .slice AL V.leases.length cL] 72 (0, 0))] [blk (.slice AS xs.length cS), blk (.slice AN V.snats.length cN), blk (.slice AK V.sick.length cK), blk (.slice AL V.leases.length cL), R] ∧
    F = p :: (blk (.slice AS xs.length cS) ++ (blk (.slice AN V.snats.length cN) ++ (blk (.slice AK V.sick.length cK) ++ (blk (.slice AL V.leases.length cL) ++ R)))) ∧
    w.ownsRow 0 43 4 (.slice AS xs.length cS) xs.length (xs.flatMap cellsS) ∧ w.ownsRow 0 79 2 (.slice AN V.snats.length cN) V.snats.length (V.snats.flatMap cellsN) ∧
    w.ownsRow 0 40 1 (.slice AK V.sick.length cK) V.sick.length (V.sick.flatMap (Go.Tw.encI .u32)) ∧ w.ownsRow 0 50 4 (.slice AL V.leases.length cL) V.leases.length (V.leases.flatMap encL) ∧
    svcsIn w R xs ∧ xs.map (·.v) = V.svcs
theorem cfg_close {w0 w : World} {F0 : List Nat} {p : Nat} {V : CfgV} {AS : Option Addr} {cS : Nat} {xs : List Svc} {AN : Option Addr} {cN : Nat} {AK : Option Addr} {cK : Nat} {AL : Option Addr} {cL : Nat} {R : List Nat}
    (h : Cx w0 F0 w [(p, .cells #[.int .i64 V.epoch, .int .i64 V.now, .slice AS xs.length cS, .slice AN V.snats.length cN, .slice AK V.sick.length cK, .slice AL V.leases.length cL] 72 (0, 0))] [blk (.slice AS xs.length cS), blk (.slice AN V.snats.length cN), blk (.slice AK V.sick.length cK), blk (.slice AL V.leases.length cL), R])
    (hS : w.ownsRow 0 43 4 (.slice AS xs.length cS) xs.length (xs.flatMap cellsS)) (hN : w.ownsRow 0 79 2 (.slice AN V.snats.length cN) V.snats.length (V.snats.flatMap cellsN))
    (hK : w.ownsRow 0 40 1 (.slice AK V.sick.length cK) V.sick.length (V.sick.flatMap (Go.Tw.encI .u32))) (hL : w.ownsRow 0 50 4 (.slice AL V.leases.length cL) V.leases.length (V.leases.flatMap encL))
    (hi : svcsIn w R xs) (hv : xs.map (·.v) = V.svcs) :
    cfgAt w (p :: (blk (.slice AS xs.length cS) ++ (blk (.slice AN V.snats.length cN) ++ (blk (.slice AK V.sick.length cK) ++ (blk (.slice AL V.leases.length cL) ++ R))))) p V ∧ Fr w0 w F0 ∧ ∀ x ∈ p :: (blk (.slice AS xs.length cS) ++ (blk (.slice AN V.snats.length cN) ++ (blk (.slice AK V.sick.length cK) ++ (blk (.slice AL V.leases.length cL) ++ R)))), x ∈ F0 ∨ w0.heap.size ≤ x :=
  ⟨⟨AS, cS, xs, AN, cN, AK, cK, AL, cL, R, Cx.reset5 h, rfl, hS, hN, hK, hL, hi, hv⟩, h.fr, Cx.subs5 h⟩
theorem cfgAt_lt {w : World} {F : List Nat} {p : Nat} {V : CfgV} (h : cfgAt w F p V) : ∀ x ∈ F, x < w.heap.size := by
  obtain ⟨AS, cS, xs, AN, cN, AK, cK, AL, cL, R, hC, rfl, _⟩ := h
  exact Cx.lts5 hC
theorem cfgAt.fr {w w' : World} {F G : List Nat} {p : Nat} {V : CfgV} (h : cfgAt w F p V) (hf : Fr w w' G) (hd : ∀ x ∈ F, x ∉ G) : cfgAt w' F p V := by
  obtain ⟨AS, cS, xs, AN, cN, AK, cK, AL, cL, R, hC, rfl, h1, h2, h3, h4, h5, h6⟩ := h
  simp only [List.mem_cons, List.mem_append] at hd
  exact ⟨AS, cS, xs, AN, cN, AK, cK, AL, cL, R, Cx.move5 hC hf (hd p (.inl rfl)), rfl, own_fr h1 hf (fun x hx => hd x (.inr (.inl hx))), own_fr h2 hf (fun x hx => hd x (.inr (.inr (.inl hx)))), own_fr h3 hf (fun x hx => hd x (.inr (.inr (.inr (.inl hx))))), own_fr h4 hf (fun x hx => hd x (.inr (.inr (.inr (.inr (.inl hx)))))), h5.fr hf (fun x hx => hd x (.inr (.inr (.inr (.inr (.inr hx)))))), h6⟩
set_option maxHeartbeats 1000000 in
theorem snat_ct (F : List Nat) (p : Nat) (V : CfgV) (n : Nat) (c : Cmd) (w : World) (h : cfgAt w F p V) (hw : wfCfg V n) (hn : n ≤ 100000000000) : Calls Tryz.prog 60 #[.pointer (some ⟨p, 0, none⟩), .agg #[.int .i64 c.v.node, .int .i64 c.v.boot, .int .i64 c.v.seq, .int .i64 c.v.time, .int .i64 c.v.kind, .int .u32 c.v.svip, .int .i64 c.v.sproto, .int .i64 c.v.sport, .slice c.a c.v.ends.length c.c, .int .u32 c.v.dip, .int .u32 c.v.vip, .bool c.v.up]] w fun e w' => ∃ F2, e = .returned (.agg #[.int .i64 ((snatR V ⟨c.v.dip, c.v.vip⟩ c.v.up).err), .int .u32 ((snatR V ⟨c.v.dip, c.v.vip⟩ c.v.up).lease.vip), .int .i64 ((snatR V ⟨c.v.dip, c.v.vip⟩ c.v.up).lease.first), .int .u32 ((snatR V ⟨c.v.dip, c.v.vip⟩ c.v.up).lease.dip), .int .i64 ((snatR V ⟨c.v.dip, c.v.vip⟩ c.v.up).lease.exp)]) ∧ Fr w w' F ∧ cfgAt w' F2 p (snatC V ⟨c.v.dip, c.v.vip⟩ c.v.up) ∧ ∀ x ∈ F2, x ∈ F ∨ w.heap.size ≤ x := by
 refine enterD (n := 37) Tryz.func60 rfl rfl (Nat.le_of_ble_eq_true rfl) ?_
 intro Q0 hN hret hret'
 obtain ⟨AS, cS, xs, AN, cN, AK, cK, AL, cL, R, hC, hF_, hrS, hrN, hrK, hrL, hin, hvals⟩ := h
 have hssx_ : sortK kS xs := sortK_map (by rw [hvals]; exact hw.ssort)
 have hslx_ : V.svcs.length = xs.length := by rw [← hvals, List.length_map]
 have hws1_ := hw.sn
 have hws2_ := hw.nn
 have hws3_ := hw.kn
 have hws4_ := hw.ln
 have hws5_ := hw.ep0
 have hws6_ := hw.ep1
 have hws7_ := hw.now0
 have hws8_ := hw.now1
 refine WCs (fun K1 hK2 => ?_)
 refine WCg ?_
 refine WL.newM hC (fun b => .pointer (some ⟨b, 0, none⟩)) (.cells #[.int .i64 c.v.node, .int .i64 c.v.boot, .int .i64 c.v.seq, .int .i64 c.v.time, .int .i64 c.v.kind, .int .u32 c.v.svip, .int .i64 c.v.sproto, .int .i64 c.v.sport, .slice c.a c.v.ends.length c.c, .int .u32 c.v.dip, .int .u32 c.v.vip, .bool c.v.up] 45) 3 (fun _ => by kernel_rfl) (fun g3 w4 hb7 hF5 hC6 => ?_)
 have ho8 := own_fr hrS hF5 (by simp)
 have ho9 := own_fr hrN hF5 (by simp)
 have a4 := own_fr hrK hF5 (by simp)
 have a5 := own_fr hrL hF5 (by simp)
 have a6 := svcsIn.fr hin hF5 (by simp)
 have a7 := (Fr.refl w []).trans hF5 (by simp)
 refine WL.newM hC6 (fun b => .pointer (some ⟨b, 0, none⟩)) (.cells #[.int .i64 0, .int .u32 0, .int .i64 0, .int .u32 0, .int .i64 0] 52) 4 (fun _ => by kernel_rfl) (fun a8 bO bI af a9 => ?_)
 have ba := own_fr ho8 af (by simp)
 have bb := own_fr ho9 af (by simp)
 have bc := own_fr a4 af (by simp)
 have bd := own_fr a5 af (by simp)
 have be := svcsIn.fr a6 af (by simp)
 have bf := a7.trans af (by simp)
 refine WLd rfl (QXn (hK2 _ _ ?_))
 refine WCs (fun bP au => ?_)
 refine WCg (WLq 1 [(5, .bool false)] (WLd rfl (QXn (au _ _ ?_))))
 refine WCs (fun bQ av => ?_)
 refine WC.drawC a9 (p :: blk (.slice AN V.snats.length cN)) (by kernel_rfl) (fun bJ ag aa ab => ?_)
 have bg := own_fr ba ag (by simp)
 have bh := own_fr bb ag (by simp)
 have bi := own_fr bc ag (by simp)
 have bj := own_fr bd ag (by simp)
 have bk := svcsIn.fr be ag (by simp)
 have bK := bf.trans ag (by simp)
 refine WDq (NPt hN) 0 7 (.pointer (some ⟨p, 0, none⟩)) ab ?_
 refine WDq (NPt hN) 1 8 (.pointer (some ⟨p, 0, none⟩)) ab ?_
 refine WDq (NPt hN) 2 9 (.pointer (some ⟨p, 0, none⟩)) ab ?_
 refine WDq (NPt hN) 3 10 (.pointer (some ⟨p, 0, none⟩)) ab ?_
 refine WDq (NPt hN) 4 11 (.pointer (some ⟨p, 3, none⟩)) ab ?_
 refine WDq (NPt hN) 6 13 (.pointer (some ⟨g3, 9, none⟩)) ab ?_
 refine WDq (NPt hN) 8 15 (.pointer (some ⟨g3, 10, none⟩)) ab ?_
 refine WDq (NPt hN) 11 18 (.pointer (some ⟨g3, 11, none⟩)) ab ?_
 refine WDm (NPt hN) 7 40 (.pointer (some ⟨g3, 9, none⟩)) (.int .u32 c.v.dip) 14 (fun _ hS_ => run_ld (Fr.has hS_ (aa.get 1 rfl) (fun h_ => (List.mem_cons.1 h_).elim (aa.ne 1 0 rfl rfl (by decide)) (aa.notin 1 1 rfl rfl))) rfl) ab ?_
 refine WDm (NPt hN) 9 40 (.pointer (some ⟨g3, 10, none⟩)) (.int .u32 c.v.vip) 16 (fun _ hS_ => run_ld (Fr.has hS_ (aa.get 1 rfl) (fun h_ => (List.mem_cons.1 h_).elim (aa.ne 1 0 rfl rfl (by decide)) (aa.notin 1 1 rfl rfl))) rfl) ab ?_
 refine WDq (NPt hN) 10 17 (.agg #[.int .u32 c.v.dip, .int .u32 c.v.vip]) ab ?_
 refine WDm (NPt hN) 12 4 (.pointer (some ⟨g3, 11, none⟩)) (.bool c.v.up) 19 (fun _ hS_ => run_ld (Fr.has hS_ (aa.get 1 rfl) (fun h_ => (List.mem_cons.1 h_).elim (aa.ne 1 0 rfl rfl (by decide)) (aa.notin 1 1 rfl rfl))) rfl) ab ?_
 refine WDq (NPt hN) 13 20 (.bool !c.v.up) ab ?_
 refine WD.sem 5 (Instr.loadAt 27 (.pointer (some ⟨p, 3, none⟩))) 12 (.slice AN V.snats.length cN) (by kernel_rfl) (by kernel_rfl) (run_ld (aa.get 0 rfl) rfl) ab ?_
 refine WD.call 14 (by kernel_rfl) rfl rfl rfl rfl rfl (by kernel_rfl) (putN_ct AN V.snats.length cN V.snats (⟨c.v.dip, c.v.vip⟩ : SnatV) (!c.v.up) bJ bh (hw.nsort) (by omega)) ?_
 rintro _ bR ⟨v_, rfl, ah, aA, aB⟩
 have ai := aa.callF 1 rfl ah aB (own_lt aA)
 obtain ⟨aK, aL, rfl, bH⟩ := own_form aA
 have ad := ab.trans ah (fun x_ hx_ => .inl (List.mem_cons_of_mem _ hx_))
 refine ⟨_, rfl, ad, ?_⟩
 have bl := own_fr bg ah (aa.disj 0 1 rfl rfl (by decide))
 have bm := own_fr bi ah (aa.disj 2 1 rfl rfl (by decide))
 have bn := own_fr bj ah (aa.disj 3 1 rfl rfl (by decide))
 have bo := svcsIn.fr bk ah (aa.disj 4 1 rfl rfl (by decide))
 refine WDq (NPt hN) 15 6 (.tuple #[.slice aK ((putK kN V.snats (⟨c.v.dip, c.v.vip⟩ : SnatV) (!c.v.up)).length) aL, .bool (hasK kN (kN (⟨c.v.dip, c.v.vip⟩ : SnatV)) V.snats)]) ad ?_
 refine WDq (NPt hN) 16 22 (.slice aK ((putK kN V.snats (⟨c.v.dip, c.v.vip⟩ : SnatV) (!c.v.up)).length) aL) ad ?_
 refine WDq (NPt hN) 17 23 (.bool (hasK kN (kN (⟨c.v.dip, c.v.vip⟩ : SnatV)) V.snats)) ad ?_
 refine WDq (NPt hN) 18 24 (.pointer (some ⟨p, 0, none⟩)) ad ?_
 refine WDq (NPt hN) 19 25 (.pointer (some ⟨p, 0, none⟩)) ad ?_
 refine WDq (NPt hN) 20 26 (.pointer (some ⟨p, 3, none⟩)) ad ?_
 obtain ⟨bL, bp, aj, ac⟩ := sto_run (c' := #[.int .i64 V.epoch, .int .i64 V.now, .slice AS xs.length cS, .slice aK ((putK kN V.snats (⟨c.v.dip, c.v.vip⟩ : SnatV) (!c.v.up)).length) aL, .slice AK V.sick.length cK, .slice AL V.leases.length cL]) Tryz.prog ai 0 27 p 3 (.slice aK ((putK kN V.snats (⟨c.v.dip, c.v.vip⟩ : SnatV) (!c.v.up)).length) aL) rfl (by kernel_rfl)
 have aM := ad.trans aj (by first | (simp; done) | (simp [*]; done) | (have q_ := ad.size; simp; omega))
 refine WD.semU 21 (Instr.storeAt 27 (.pointer (some ⟨p, 3, none⟩)) (.slice aK ((putK kN V.snats (⟨c.v.dip, c.v.vip⟩ : SnatV) (!c.v.up)).length) aL)) (by kernel_rfl) (by kernel_rfl) bp aM ?_
 have aC := own_fr bl aj (ai.apartM 0 0 rfl rfl)
 have aD := own_fr aA aj (ai.apartM 1 0 rfl rfl)
 have aE := own_fr bm aj (ai.apartM 2 0 rfl rfl)
 have aF := own_fr bn aj (ai.apartM 3 0 rfl rfl)
 have aG := svcsIn.fr bo aj (ai.apartM 4 0 rfl rfl)
 refine WDq (NPt hN) 22 5 (.bool (hasK kN (kN (⟨c.v.dip, c.v.vip⟩ : SnatV)) V.snats)) aM ?_
 refine WD.done (by kernel_rfl) ?_
 refine QXn (av _ _ ?_)
 refine WCs (fun bS am => ?_)
 refine WCs (fun bT an => ?_)
 refine WCg (WLq 1 [(27, .pointer (some ⟨g3, 11, none⟩))] ?_)
 refine WLo 4 (.pointer (some ⟨g3, 11, none⟩)) (.bool c.v.up) 28 (run_ld (ac.get 1 rfl) rfl) ?_
 refine WLq 2 [(30, .bool !c.v.up), (29, .bool !c.v.up)] ?_
 refine WLa 30 (!c.v.up) rfl (fun ao => ?_) (fun ao => ?_)
 ·
  have a3 : c.v.up = false := by first | (simpa only [Bool.not_eq_true', Bool.not_eq_false'] using ao) | simpa using ao
  refine WLq 3 [(33, .bool (!(hasK kN (kN (⟨c.v.dip, c.v.vip⟩ : SnatV)) V.snats))), (32, .bool (!(hasK kN (kN (⟨c.v.dip, c.v.vip⟩ : SnatV)) V.snats))), (31, .bool (hasK kN (kN (⟨c.v.dip, c.v.vip⟩ : SnatV)) V.snats))] (WLd rfl (QXn (an _ _ ?_)))
  refine WCa 33 (!(hasK kN (kN (⟨c.v.dip, c.v.vip⟩ : SnatV)) V.snats)) rfl (fun ap => ?_) (fun ap => ?_)
  ·
   have bq : (hasK kN (kN (⟨c.v.dip, c.v.vip⟩ : SnatV)) V.snats) = false := by first | (simpa only [Bool.not_eq_true', Bool.not_eq_false'] using ap) | simpa using ap
   refine WCt rfl ?_
   refine WCs (fun bU aN => ?_)
   refine WCg (WLq 1 [(34, .iface 118 (.int .i64 6))] ?_)
   refine WLc rfl rfl rfl rfl rfl (by kernel_rfl) (result_err 6 bL) ?_
   rintro _ bV ⟨rfl, ak⟩
   refine ⟨_, rfl, ?_⟩
   have al := ac.call ak
   have br := own_fr aC ak (by simp)
   have bs := own_fr aD ak (by simp)
   have bt := own_fr aE ak (by simp)
   have bu := own_fr aF ak (by simp)
   have bv := svcsIn.fr aG ak (by simp)
   refine WLs (c' := #[.int .i64 6, .int .u32 0, .int .i64 0, .int .u32 0, .int .i64 0]) al 2 52 a8 0 (.agg #[.int .i64 6, .int .u32 0, .int .i64 0, .int .u32 0, .int .i64 0]) (by kernel_rfl) rfl (by kernel_rfl) (fun bW aq aO => ?_)
   have bw := own_fr br aq (al.apartM 0 2 rfl rfl)
   have bx := own_fr bs aq (al.apartM 1 2 rfl rfl)
   have bz := own_fr bt aq (al.apartM 2 2 rfl rfl)
   have bA := own_fr bu aq (al.apartM 3 2 rfl rfl)
   have bB := svcsIn.fr bv aq (al.apartM 4 2 rfl rfl)
   refine WLd rfl (QXn (aN _ _ ?_))
   refine WC.ret ?_
   refine QXr ?_
   refine (hret' _ _ (.agg #[.int .i64 6, .int .u32 0, .int .i64 0, .int .u32 0, .int .i64 0]) (fun a ha => ?_) ?_).1
   ·
    exact res_run ha ((ResR.cell rfl (run_ld (aO.get 2 rfl) rfl) ResR.nil)) rfl
   clear hN hret hret' aN an am av au hK2
   have bC := Cx.pickM aO [0] [0, 1, 2, 3, 4] (by decide) rfl rfl
   obtain ⟨bD, aP, aH⟩ := cfg_close (V := snatC V ⟨c.v.dip, c.v.vip⟩ c.v.up) (xs := xs) bC bw bx bz bA bB hvals
   have hR_ : snatR V ⟨c.v.dip, c.v.vip⟩ c.v.up = errR 6 := by unfold snatR; rw [if_pos ⟨a3, bq⟩]
   rw [hR_]
   exact ⟨_, rfl, aP, bD, aH⟩
  ·
   have bq : (hasK kN (kN (⟨c.v.dip, c.v.vip⟩ : SnatV)) V.snats) = true := by first | (simpa only [Bool.not_eq_true', Bool.not_eq_false'] using ap) | simpa using ap
   refine WCf rfl (WC.skip (QXn (am _ _ ?_)))
   refine WCs (fun bX aQ => ?_)
   refine WCg (WLq 1 [(36, .agg #[.int .i64 0, .int .u32 0, .int .i64 0, .int .u32 0, .int .i64 0])] ?_)
   refine WLs (c' := #[.int .i64 0, .int .u32 0, .int .i64 0, .int .u32 0, .int .i64 0]) ac 2 52 a8 0 (.agg #[.int .i64 0, .int .u32 0, .int .i64 0, .int .u32 0, .int .i64 0]) (by kernel_rfl) rfl (by kernel_rfl) (fun bY ar aR => ?_)
   have bE := own_fr aC ar (ac.apartM 0 2 rfl rfl)
   have bF := own_fr aD ar (ac.apartM 1 2 rfl rfl)
   have bG := own_fr aE ar (ac.apartM 2 2 rfl rfl)
   have aS := own_fr aF ar (ac.apartM 3 2 rfl rfl)
   have aT := svcsIn.fr aG ar (ac.apartM 4 2 rfl rfl)
   refine WLd rfl (QXn (aQ _ _ ?_))
   refine WC.ret ?_
   refine (hret' _ _ (.agg #[.int .i64 0, .int .u32 0, .int .i64 0, .int .u32 0, .int .i64 0]) (fun a ha => ?_) ?_).1
   ·
    exact res_run ha ((ResR.cell rfl (run_ld (aR.get 2 rfl) rfl) ResR.nil)) rfl
   clear hN hret hret' aQ an am av au hK2
   have aU := Cx.pickM aR [0] [0, 1, 2, 3, 4] (by decide) rfl rfl
   obtain ⟨aV, aI, aw⟩ := cfg_close (V := snatC V ⟨c.v.dip, c.v.vip⟩ c.v.up) (xs := xs) aU bE bF bG aS aT hvals
   have hR_ : snatR V ⟨c.v.dip, c.v.vip⟩ c.v.up = okR := by unfold snatR; rw [if_neg (fun q_ => by obtain ⟨q1_, q2_⟩ := q_; first | (exact absurd q1_ (by rw [a3]; decide)) | (exact absurd q2_ (by rw [bq]; decide)))]
   rw [hR_]
   exact ⟨_, rfl, aI, aV, aw⟩
 ·
  have a3 : c.v.up = true := by first | (simpa only [Bool.not_eq_true', Bool.not_eq_false'] using ao) | simpa using ao
  refine WLq 3 [(33, .bool false), (32, undef), (31, undef)] (WLd rfl (QXn (an _ _ ?_)))
  refine WCf rfl (WC.skip (QXn (am _ _ ?_)))
  refine WCs (fun bM ay => ?_)
  refine WCg (WLq 1 [(36, .agg #[.int .i64 0, .int .u32 0, .int .i64 0, .int .u32 0, .int .i64 0])] ?_)
  refine WLs (c' := #[.int .i64 0, .int .u32 0, .int .i64 0, .int .u32 0, .int .i64 0]) ac 2 52 a8 0 (.agg #[.int .i64 0, .int .u32 0, .int .i64 0, .int .u32 0, .int .i64 0]) (by kernel_rfl) rfl (by kernel_rfl) (fun bN ae az => ?_)
  have aW := own_fr aC ae (ac.apartM 0 2 rfl rfl)
  have aX := own_fr aD ae (ac.apartM 1 2 rfl rfl)
  have aY := own_fr aE ae (ac.apartM 2 2 rfl rfl)
  have aZ := own_fr aF ae (ac.apartM 3 2 rfl rfl)
  have a0 := svcsIn.fr aG ae (ac.apartM 4 2 rfl rfl)
  refine WLd rfl (QXn (ay _ _ ?_))
  refine WC.ret ?_
  refine (hret' _ _ (.agg #[.int .i64 0, .int .u32 0, .int .i64 0, .int .u32 0, .int .i64 0]) (fun a ha => ?_) ?_).1
  ·
   exact res_run ha ((ResR.cell rfl (run_ld (az.get 2 rfl) rfl) ResR.nil)) rfl
  clear hN hret hret' ay an am av au hK2
  have a1 := Cx.pickM az [0] [0, 1, 2, 3, 4] (by decide) rfl rfl
  obtain ⟨a2, aJ, ax⟩ := cfg_close (V := snatC V ⟨c.v.dip, c.v.vip⟩ c.v.up) (xs := xs) a1 aW aX aY aZ a0 hvals
  have hR_ : snatR V ⟨c.v.dip, c.v.vip⟩ c.v.up = okR := by unfold snatR; rw [if_neg (fun q_ => by obtain ⟨q1_, q2_⟩ := q_; first | (exact absurd q1_ (by rw [a3]; decide)))]
  rw [hR_]
  exact ⟨_, rfl, aJ, a2, ax⟩

set_option maxHeartbeats 1000000 in
theorem health_ct (F : List Nat) (p : Nat) (V : CfgV) (n : Nat) (c : Cmd) (w : World) (h : cfgAt w F p V) (hw : wfCfg V n) (hn : n ≤ 100000000000) : Calls Tryz.prog 61 #[.pointer (some ⟨p, 0, none⟩), .agg #[.int .i64 c.v.node, .int .i64 c.v.boot, .int .i64 c.v.seq, .int .i64 c.v.time, .int .i64 c.v.kind, .int .u32 c.v.svip, .int .i64 c.v.sproto, .int .i64 c.v.sport, .slice c.a c.v.ends.length c.c, .int .u32 c.v.dip, .int .u32 c.v.vip, .bool c.v.up]] w fun e w' => ∃ F2, e = .returned (.agg #[.int .i64 ((okR).err), .int .u32 ((okR).lease.vip), .int .i64 ((okR).lease.first), .int .u32 ((okR).lease.dip), .int .i64 ((okR).lease.exp)]) ∧ Fr w w' F ∧ cfgAt w' F2 p (sickC V c.v.dip c.v.up) ∧ ∀ x ∈ F2, x ∈ F ∨ w.heap.size ≤ x := by
 refine enterD (n := 23) Tryz.func61 rfl rfl (Nat.le_of_ble_eq_true rfl) ?_
 intro Q0 hN hret hret'
 obtain ⟨AS, cS, xs, AN, cN, AK, cK, AL, cL, R, hC, hF_, hrS, hrN, hrK, hrL, hin, hvals⟩ := h
 have hssx_ : sortK kS xs := sortK_map (by rw [hvals]; exact hw.ssort)
 have hslx_ : V.svcs.length = xs.length := by rw [← hvals, List.length_map]
 have hws1_ := hw.sn
 have hws2_ := hw.nn
 have hws3_ := hw.kn
 have hws4_ := hw.ln
 have hws5_ := hw.ep0
 have hws6_ := hw.ep1
 have hws7_ := hw.now0
 have hws8_ := hw.now1
 refine WCs (fun K1 hK2 => ?_)
 refine WCg ?_
 refine WL.newM hC (fun b => .pointer (some ⟨b, 0, none⟩)) (.cells #[.int .i64 c.v.node, .int .i64 c.v.boot, .int .i64 c.v.seq, .int .i64 c.v.time, .int .i64 c.v.kind, .int .u32 c.v.svip, .int .i64 c.v.sproto, .int .i64 c.v.sport, .slice c.a c.v.ends.length c.c, .int .u32 c.v.dip, .int .u32 c.v.vip, .bool c.v.up] 45) 3 (fun _ => by kernel_rfl) (fun g3 w4 hb7 hF5 hC6 => ?_)
 have ho8 := own_fr hrS hF5 (by simp)
 have ho9 := own_fr hrN hF5 (by simp)
 have av := own_fr hrK hF5 (by simp)
 have aw := own_fr hrL hF5 (by simp)
 have ax := svcsIn.fr hin hF5 (by simp)
 have ay := (Fr.refl w []).trans hF5 (by simp)
 refine WL.newM hC6 (fun b => .pointer (some ⟨b, 0, none⟩)) (.cells #[.int .i64 0, .int .u32 0, .int .i64 0, .int .u32 0, .int .i64 0] 52) 4 (fun _ => by kernel_rfl) (fun a4 a8 a5 ad az => ?_)
 have aA := own_fr ho8 ad (by simp)
 have aB := own_fr ho9 ad (by simp)
 have aC := own_fr av ad (by simp)
 have aD := own_fr aw ad (by simp)
 have aE := svcsIn.fr ax ad (by simp)
 have aF := ay.trans ad (by simp)
 refine WLd rfl (QXn (hK2 _ _ ?_))
 refine WCs (fun a9 an => ?_)
 refine WC.drawC az (p :: blk (.slice AK V.sick.length cK)) (by kernel_rfl) (fun a6 ae aa ab => ?_)
 have aG := own_fr aA ae (by simp)
 have aH := own_fr aB ae (by simp)
 have aI := own_fr aC ae (by simp)
 have aJ := own_fr aD ae (by simp)
 have aK := svcsIn.fr aE ae (by simp)
 have a7 := aF.trans ae (by simp)
 refine WDq (NPt hN) 0 6 (.pointer (some ⟨p, 0, none⟩)) ab ?_
 refine WDq (NPt hN) 1 7 (.pointer (some ⟨p, 0, none⟩)) ab ?_
 refine WDq (NPt hN) 2 8 (.pointer (some ⟨p, 0, none⟩)) ab ?_
 refine WDq (NPt hN) 3 9 (.pointer (some ⟨p, 0, none⟩)) ab ?_
 refine WDq (NPt hN) 4 10 (.pointer (some ⟨p, 4, none⟩)) ab ?_
 refine WDq (NPt hN) 6 12 (.pointer (some ⟨g3, 9, none⟩)) ab ?_
 refine WDq (NPt hN) 8 14 (.pointer (some ⟨g3, 11, none⟩)) ab ?_
 refine WDm (NPt hN) 7 40 (.pointer (some ⟨g3, 9, none⟩)) (.int .u32 c.v.dip) 13 (fun _ hS_ => run_ld (Fr.has hS_ (aa.get 1 rfl) (fun h_ => (List.mem_cons.1 h_).elim (aa.ne 1 0 rfl rfl (by decide)) (aa.notin 2 1 rfl rfl))) rfl) ab ?_
 refine WDm (NPt hN) 9 4 (.pointer (some ⟨g3, 11, none⟩)) (.bool c.v.up) 15 (fun _ hS_ => run_ld (Fr.has hS_ (aa.get 1 rfl) (fun h_ => (List.mem_cons.1 h_).elim (aa.ne 1 0 rfl rfl (by decide)) (aa.notin 2 1 rfl rfl))) rfl) ab ?_
 refine WD.sem 5 (Instr.loadAt 28 (.pointer (some ⟨p, 4, none⟩))) 11 (.slice AK V.sick.length cK) (by kernel_rfl) (by kernel_rfl) (run_ld (aa.get 0 rfl) rfl) ab ?_
 refine WD.call 10 (by kernel_rfl) rfl rfl rfl rfl rfl (by kernel_rfl) (putA_ct AK V.sick.length cK V.sick c.v.dip c.v.up a6 aI (hw.ksort) (by omega)) ?_
 rintro _ ba ⟨v_, rfl, af, ak, al⟩
 have ag := aa.callF 2 rfl af al (own_lt ak)
 obtain ⟨ao, ap, rfl, a3⟩ := own_form ak
 have ac := ab.trans af (fun x_ hx_ => .inl (List.mem_cons_of_mem _ hx_))
 refine ⟨_, rfl, ac, ?_⟩
 have aL := own_fr aG af (aa.disj 0 2 rfl rfl (by decide))
 have aM := own_fr aH af (aa.disj 1 2 rfl rfl (by decide))
 have aN := own_fr aJ af (aa.disj 3 2 rfl rfl (by decide))
 have aO := svcsIn.fr aK af (aa.disj 4 2 rfl rfl (by decide))
 refine WDq (NPt hN) 11 5 (.tuple #[.slice ao ((putK kA V.sick c.v.dip c.v.up).length) ap, .bool (hasK kA (kA c.v.dip) V.sick)]) ac ?_
 refine WDq (NPt hN) 12 17 (.slice ao ((putK kA V.sick c.v.dip c.v.up).length) ap) ac ?_
 refine WDq (NPt hN) 13 18 (.bool (hasK kA (kA c.v.dip) V.sick)) ac ?_
 refine WDq (NPt hN) 14 19 (.pointer (some ⟨p, 0, none⟩)) ac ?_
 refine WDq (NPt hN) 15 20 (.pointer (some ⟨p, 0, none⟩)) ac ?_
 refine WDq (NPt hN) 16 21 (.pointer (some ⟨p, 4, none⟩)) ac ?_
 obtain ⟨bb, aP, ah, ai⟩ := sto_run (c' := #[.int .i64 V.epoch, .int .i64 V.now, .slice AS xs.length cS, .slice AN V.snats.length cN, .slice ao ((putK kA V.sick c.v.dip c.v.up).length) ap, .slice AL V.leases.length cL]) Tryz.prog ag 0 28 p 4 (.slice ao ((putK kA V.sick c.v.dip c.v.up).length) ap) rfl (by kernel_rfl)
 have aQ := ac.trans ah (by first | (simp; done) | (simp [*]; done) | (have q_ := ac.size; simp; omega))
 refine WD.semU 17 (Instr.storeAt 28 (.pointer (some ⟨p, 4, none⟩)) (.slice ao ((putK kA V.sick c.v.dip c.v.up).length) ap)) (by kernel_rfl) (by kernel_rfl) aP aQ ?_
 have aR := own_fr aL ah (ag.apartM 0 0 rfl rfl)
 have aS := own_fr aM ah (ag.apartM 1 0 rfl rfl)
 have aT := own_fr ak ah (ag.apartM 2 0 rfl rfl)
 have aU := own_fr aN ah (ag.apartM 3 0 rfl rfl)
 have aV := svcsIn.fr aO ah (ag.apartM 4 0 rfl rfl)
 refine WD.done (by kernel_rfl) ?_
 refine QXn (an _ _ ?_)
 refine WCs (fun bc aq => ?_)
 refine WCg (WLq 1 [(22, .agg #[.int .i64 0, .int .u32 0, .int .i64 0, .int .u32 0, .int .i64 0])] ?_)
 refine WLs (c' := #[.int .i64 0, .int .u32 0, .int .i64 0, .int .u32 0, .int .i64 0]) ai 2 52 a4 0 (.agg #[.int .i64 0, .int .u32 0, .int .i64 0, .int .u32 0, .int .i64 0]) (by kernel_rfl) rfl (by kernel_rfl) (fun bd aj ar => ?_)
 have aW := own_fr aR aj (ai.apartM 0 2 rfl rfl)
 have aX := own_fr aS aj (ai.apartM 1 2 rfl rfl)
 have aY := own_fr aT aj (ai.apartM 2 2 rfl rfl)
 have aZ := own_fr aU aj (ai.apartM 3 2 rfl rfl)
 have a0 := svcsIn.fr aV aj (ai.apartM 4 2 rfl rfl)
 refine WLd rfl (QXn (aq _ _ ?_))
 refine WC.ret ?_
 refine (hret' _ _ (.agg #[.int .i64 0, .int .u32 0, .int .i64 0, .int .u32 0, .int .i64 0]) (fun a ha => ?_) ?_).1
 ·
  exact res_run ha ((ResR.cell rfl (run_ld (ar.get 2 rfl) rfl) ResR.nil)) rfl
 clear hN hret hret' aq an hK2
 have a1 := Cx.pickM ar [0] [0, 1, 2, 3, 4] (by decide) rfl rfl
 obtain ⟨a2, au, am⟩ := cfg_close (V := sickC V c.v.dip c.v.up) (xs := xs) a1 aW aX aY aZ a0 hvals
 exact ⟨_, rfl, au, a2, am⟩

set_option maxHeartbeats 2000000 in
theorem service_ct (F : List Nat) (p : Nat) (V : CfgV) (n : Nat) (s : Svc) (w : World) (h : cfgAt w F p V) (hw : wfCfg V n) (hn : n ≤ 100000000000) (hs : svcAt w s) : Calls Tryz.prog 59 #[.pointer (some ⟨p, 0, none⟩), .agg #[.int .u32 s.v.vip, .int .i64 s.v.proto, .int .i64 s.v.port, .slice s.a s.v.ends.length s.c]] w fun e w' => ∃ F2, e = .returned (.agg #[.int .i64 ((svcR V s.v).err), .int .u32 ((svcR V s.v).lease.vip), .int .i64 ((svcR V s.v).lease.first), .int .u32 ((svcR V s.v).lease.dip), .int .i64 ((svcR V s.v).lease.exp)]) ∧ Fr w w' F ∧ cfgAt w' F2 p (svcC V s.v) ∧ ∀ x ∈ F2, x ∈ F ∨ w.heap.size ≤ x := by
 refine enterD (n := 69) Tryz.func59 rfl rfl (Nat.le_of_ble_eq_true rfl) ?_
 intro Q0 hN hret hret'
 obtain ⟨AS, cS, xs, AN, cN, AK, cK, AL, cL, R, hC, hF_, hrS, hrN, hrK, hrL, hin, hvals⟩ := h
 have hssx_ : sortK kS xs := sortK_map (by rw [hvals]; exact hw.ssort)
 have hslx_ : V.svcs.length = xs.length := by rw [← hvals, List.length_map]
 have hws1_ := hw.sn
 have hws2_ := hw.nn
 have hws3_ := hw.kn
 have hws4_ := hw.ln
 have hws5_ := hw.ep0
 have hws6_ := hw.ep1
 have hws7_ := hw.now0
 have hws8_ := hw.now1
 refine WCs (fun K1 hK2 => ?_)
 refine WCg ?_
 refine WL.newM hC (fun b => .pointer (some ⟨b, 0, none⟩)) (.cells #[.int .u32 s.v.vip, .int .i64 s.v.proto, .int .i64 s.v.port, .slice s.a s.v.ends.length s.c] 43) 3 (fun _ => by kernel_rfl) (fun g3 w4 hb7 hF5 hC6 => ?_)
 have ho8 := own_fr hrS hF5 (by simp)
 have ho9 := own_fr hrN hF5 (by simp)
 have fa := own_fr hrK hF5 (by simp)
 have fb := own_fr hrL hF5 (by simp)
 have fc := svcsIn.fr hin hF5 (by simp)
 have fd := (Fr.refl w []).trans hF5 (by simp)
 refine WL.newM hC6 (fun b => .pointer (some ⟨b, 0, none⟩)) (.cells #[.int .i64 0, .int .u32 0, .int .i64 0, .int .u32 0, .int .i64 0] 52) 4 (fun _ => by kernel_rfl) (fun b2 gH f7 bg fe => ?_)
 have ff := own_fr ho8 bg (by simp)
 have fg := own_fr ho9 bg (by simp)
 have fh := own_fr fa bg (by simp)
 have fi := own_fr fb bg (by simp)
 have fj := svcsIn.fr fc bg (by simp)
 have fk := fd.trans bg (by simp)
 refine WLd rfl (QXn (hK2 _ _ ?_))
 refine WCs (fun gI aX => ?_)
 refine WC.drawC fe [] (by kernel_rfl) (fun f8 bh cD a3 => ?_)
 have cE := own_fr ff bh (by simp)
 have fl := own_fr fg bh (by simp)
 have fm := own_fr fh bh (by simp)
 have fn := own_fr fi bh (by simp)
 have fo := svcsIn.fr fj bh (by simp)
 have fp := fk.trans bh (by simp)
 refine WDq (NPt hN) 0 8 (.pointer (some ⟨p, 0, none⟩)) a3 ?_
 refine WDq (NPt hN) 1 9 (.pointer (some ⟨p, 0, none⟩)) a3 ?_
 refine WDq (NPt hN) 2 10 (.pointer (some ⟨p, 0, none⟩)) a3 ?_
 refine WDq (NPt hN) 3 11 (.pointer (some ⟨p, 2, none⟩)) a3 ?_
 refine WDm (NPt hN) 4 26 (.pointer (some ⟨p, 2, none⟩)) (.slice AS xs.length cS) 12 (fun _ hS_ => run_ld (Fr.has hS_ (cD.get 0 rfl) (by simp)) rfl) a3 ?_
 refine WDm (NPt hN) 5 43 (.pointer (some ⟨g3, 0, none⟩)) (.agg #[.int .u32 s.v.vip, .int .i64 s.v.proto, .int .i64 s.v.port, .slice s.a s.v.ends.length s.c]) 13 (fun _ hS_ => run_ld (Fr.has hS_ (cD.get 1 rfl) (by simp)) rfl) a3 ?_
 refine WD.call 6 (by kernel_rfl) rfl rfl rfl rfl rfl (by kernel_rfl) (BSFS_n AS xs.length cS xs s f8 (own_rd cE cellsS_len (by decide)) (own_count cellsS_len (by decide) cE) (hssx_) (by omega)) ?_
 rintro _ e9 ⟨rfl, aZ⟩
 have bi := a3.trans aZ (by simp)
 refine ⟨_, rfl, bi, ?_⟩
 have aY := cD.call aZ
 have bN := own_fr cE aZ (by simp)
 have bO := own_fr fl aZ (by simp)
 have bP := own_fr fm aZ (by simp)
 have bQ := own_fr fn aZ (by simp)
 have bR := svcsIn.fr fo aZ (by simp)
 have a4 := fp.trans aZ (by simp)
 refine WDq (NPt hN) 7 7 (.tuple #[.int .i64 (rankK kS (kV s.v) xs : Int), .bool (hasK kS (kV s.v) xs)]) bi ?_
 refine WDq (NPt hN) 8 15 (.int .i64 (rankK kS (kV s.v) xs : Int)) bi ?_
 refine WDq (NPt hN) 9 16 (.bool (hasK kS (kV s.v) xs)) bi ?_
 refine WDq (NPt hN) 10 5 (.int .i64 (rankK kS (kV s.v) xs : Int)) bi ?_
 refine WDq (NPt hN) 11 6 (.bool (hasK kS (kV s.v) xs)) bi ?_
 refine WD.done (by kernel_rfl) ?_
 refine QXn (aX _ _ ?_)
 refine WCs (fun gJ aq => ?_)
 refine WCs (fun gK ar => ?_)
 refine WCg (WLq 1 [(17, .pointer (some ⟨g3, 3, none⟩))] ?_)
 refine WLo 41 (.pointer (some ⟨g3, 3, none⟩)) (.slice s.a s.v.ends.length s.c) 18 (run_ld (aY.get 1 rfl) rfl) ?_
 refine WLq 3 [(21, .bool (decide ((s.v.ends.length : Int) > 0))), (20, .bool (decide ((s.v.ends.length : Int) > 0))), (19, .int .i64 (s.v.ends.length : Int))] ?_
 refine WLa 21 (decide ((s.v.ends.length : Int) > 0)) rfl (fun cF => ?_) (fun cF => ?_)
 ·
  have f9 : (0 : Int) < (s.v.ends.length : Int) := by have q_ := of_decide_eq_true cF; omega
  refine WLq 4 [(25, .bool (!(hasK kS (kV s.v) xs))), (24, .bool (!(hasK kS (kV s.v) xs))), (23, .bool (!(hasK kS (kV s.v) xs))), (22, .bool (hasK kS (kV s.v) xs))] ?_
  refine WLa 25 (!(hasK kS (kV s.v) xs)) rfl (fun a5 => ?_) (fun a5 => ?_)
  ·
   have bM : (hasK kS (kV s.v) xs) = false := by first | (simpa only [Bool.not_eq_true', Bool.not_eq_false'] using a5) | simpa using a5
   refine WLq 4 [(29, .pointer (some ⟨p, 2, none⟩)), (28, .pointer (some ⟨p, 0, none⟩)), (27, .pointer (some ⟨p, 0, none⟩)), (26, .pointer (some ⟨p, 0, none⟩))] ?_
   refine WLo 26 (.pointer (some ⟨p, 2, none⟩)) (.slice AS xs.length cS) 30 (run_ld (aY.get 0 rfl) rfl) ?_
   refine WLq 3 [(33, .bool (decide ((xs.length : Int) ≥ 32))), (32, .bool (decide ((xs.length : Int) ≥ 32))), (31, .int .i64 (xs.length : Int))] (WLd rfl (QXn (ar _ _ ?_)))
   refine WCa 33 (decide ((xs.length : Int) ≥ 32)) rfl (fun cG => ?_) (fun cG => ?_)
   ·
    have ga : (32 : Int) ≤ (xs.length : Int) := by have q_ := of_decide_eq_true cG; omega
    refine WCt rfl ?_
    refine WCs (fun gL cV => ?_)
    refine WCg (WLq 1 [(34, .iface 118 (.int .i64 5))] ?_)
    refine WLc rfl rfl rfl rfl rfl (by kernel_rfl) (result_err 5 e9) ?_
    rintro _ gM ⟨rfl, a6⟩
    refine ⟨_, rfl, ?_⟩
    have bj := aY.call a6
    have fq := own_fr bN a6 (by simp)
    have fs := own_fr bO a6 (by simp)
    have ft := own_fr bP a6 (by simp)
    have fu := own_fr bQ a6 (by simp)
    have fv := svcsIn.fr bR a6 (by simp)
    have gb := a4.trans a6 (by simp)
    refine WLs (c' := #[.int .i64 5, .int .u32 0, .int .i64 0, .int .u32 0, .int .i64 0]) bj 2 52 b2 0 (.agg #[.int .i64 5, .int .u32 0, .int .i64 0, .int .u32 0, .int .i64 0]) (by kernel_rfl) rfl (by kernel_rfl) (fun gN bl cW => ?_)
    have fw := own_fr fq bl (bj.apartM 0 2 rfl rfl)
    have fx := own_fr fs bl (bj.apartM 1 2 rfl rfl)
    have fy := own_fr ft bl (bj.apartM 2 2 rfl rfl)
    have fz := own_fr fu bl (bj.apartM 3 2 rfl rfl)
    have fA := svcsIn.fr fv bl (bj.apartM 4 2 rfl rfl)
    refine WLd rfl (QXn (cV _ _ ?_))
    refine WC.ret ?_
    refine QXr ?_
    refine (hret' _ _ (.agg #[.int .i64 5, .int .u32 0, .int .i64 0, .int .u32 0, .int .i64 0]) (fun a ha => ?_) ?_).1
    ·
     exact res_run ha ((ResR.cell rfl (run_ld (cW.get 2 rfl) rfl) ResR.nil)) rfl
    clear hN hret hret' cV ar aq aX hK2
    have fB := Cx.pickM cW [0] [0, 1, 2, 3, 4] (by decide) rfl rfl
    obtain ⟨fC, cX, cH⟩ := cfg_close (V := V) (xs := xs) fB fw fx fy fz fA hvals
    have hth_ : thereS V s.v = hasK kS (kV s.v) xs := by unfold thereS; rw [← hvals, hasK_map]
    have hc_ : 0 < s.v.ends.length ∧ thereS V s.v = false ∧ 32 ≤ V.svcs.length := ⟨by omega, by rw [hth_]; exact bM, by omega⟩
    have hR_ : svcR V s.v = errR 5 := by unfold svcR; rw [if_pos hc_]
    have hV_ : svcC V s.v = V := by unfold svcC; rw [if_pos hc_]
    rw [hR_, hV_]
    exact ⟨_, rfl, cX, fC, cH⟩
   ·
    have ga : (xs.length : Int) < 32 := by have q_ := of_decide_eq_false cG; omega
    refine WCf rfl (WC.skip (QXn (aq _ _ ?_)))
    refine WCs (fun gO cI => ?_)
    refine WCg (WLq 1 [(36, .pointer (some ⟨g3, 3, none⟩))] ?_)
    refine WLo 41 (.pointer (some ⟨g3, 3, none⟩)) (.slice s.a s.v.ends.length s.c) 37 (run_ld (aY.get 1 rfl) rfl) ?_
    refine WLc rfl rfl rfl rfl rfl (by kernel_rfl) (CloneE_n s.a s.v.ends.length s.c s.v.ends e9 (Rd.fr hs.rd a4) rfl hs.lim) ?_
    rintro _ gP ⟨a7, a8, rfl, a9, cJ⟩
    have ba := aY.callN a9 (own_ge cJ) (own_lt cJ)
    have fD := own_base (b' := 0) cJ (fun _ _ => Nat.zero_le _)
    refine ⟨_, rfl, ?_⟩
    have fE := own_fr bN a9 (by simp)
    have fF := own_fr bO a9 (by simp)
    have fG := own_fr bP a9 (by simp)
    have fH := own_fr bQ a9 (by simp)
    have fI := svcsIn.fr bR a9 (by simp)
    have gc := a4.trans a9 (by simp)
    refine WLq 1 [(39, .pointer (some ⟨g3, 3, none⟩))] ?_
    refine WLs (c' := #[.int .u32 s.v.vip, .int .i64 s.v.proto, .int .i64 s.v.port, .slice a7 s.v.ends.length a8]) ba 1 41 g3 3 (.slice a7 s.v.ends.length a8) (by kernel_rfl) rfl (by kernel_rfl) (fun gQ bk fJ => ?_)
    have fK := own_fr fE bk (ba.apartM 0 1 rfl rfl)
    have fL := own_fr fF bk (ba.apartM 1 1 rfl rfl)
    have fM := own_fr fG bk (ba.apartM 2 1 rfl rfl)
    have cY := own_fr fH bk (ba.apartM 3 1 rfl rfl)
    have cZ := svcsIn.fr fI bk (ba.apartM 4 1 rfl rfl)
    have c0 := own_fr fD bk (ba.apartM 5 1 rfl rfl)
    refine WLd rfl (QXn (cI _ _ ?_))
    refine WCs (fun gd bm => ?_)
    refine WC.drawC fJ (p :: blk (.slice AS xs.length cS)) (by kernel_rfl) (fun fN aL ac af => ?_)
    have c1 := own_fr fK aL (by simp)
    have c2 := own_fr fL aL (by simp)
    have c3 := own_fr fM aL (by simp)
    have c4 := own_fr cY aL (by simp)
    have c5 := svcsIn.fr cZ aL (by simp)
    have c6 := own_fr c0 aL (by simp)
    refine WDq (NPt hN) 0 41 (.pointer (some ⟨p, 0, none⟩)) af ?_
    refine WDq (NPt hN) 1 42 (.pointer (some ⟨p, 0, none⟩)) af ?_
    refine WDq (NPt hN) 2 43 (.pointer (some ⟨p, 0, none⟩)) af ?_
    refine WDq (NPt hN) 3 44 (.pointer (some ⟨p, 0, none⟩)) af ?_
    refine WDq (NPt hN) 4 45 (.pointer (some ⟨p, 2, none⟩)) af ?_
    refine WDq (NPt hN) 7 48 (.pointer (some ⟨g3, 3, none⟩)) af ?_
    refine WDm (NPt hN) 6 43 (.pointer (some ⟨g3, 0, none⟩)) (.agg #[.int .u32 s.v.vip, .int .i64 s.v.proto, .int .i64 s.v.port, .slice a7 s.v.ends.length a8]) 47 (fun _ hS_ => run_ld (Fr.has hS_ (ac.get 1 rfl) (fun h_ => (List.mem_cons.1 h_).elim (ac.ne 1 0 rfl rfl (by decide)) (ac.notin 0 1 rfl rfl))) rfl) af ?_
    refine WDm (NPt hN) 8 41 (.pointer (some ⟨g3, 3, none⟩)) (.slice a7 s.v.ends.length a8) 49 (fun _ hS_ => run_ld (Fr.has hS_ (ac.get 1 rfl) (fun h_ => (List.mem_cons.1 h_).elim (ac.ne 1 0 rfl rfl (by decide)) (ac.notin 0 1 rfl rfl))) rfl) af ?_
    refine WDq (NPt hN) 9 50 (.int .i64 (s.v.ends.length : Int)) af ?_
    refine WDq (NPt hN) 10 51 (.bool ((s.v.ends.length : Int) == 0)) af ?_
    refine WD.recast (show (.bool ((s.v.ends.length : Int) == 0) : Value) = .bool (decide (s.v.ends.length = 0)) from by congr 1; rw [Bool.eq_iff_iff]; simp) ?_
    refine WD.sem 5 (Instr.loadAt 26 (.pointer (some ⟨p, 2, none⟩))) 46 (.slice AS xs.length cS) (by kernel_rfl) (by kernel_rfl) (run_ld (ac.get 0 rfl) rfl) af ?_
    refine WD.call 11 (by kernel_rfl) rfl rfl rfl rfl rfl (by kernel_rfl) (putS_ct AS xs.length cS xs (⟨s.v, a7, a8⟩ : Svc) (decide (s.v.ends.length = 0)) fN c1 (hssx_) (by omega)) ?_
    rintro _ gf ⟨v_, rfl, au, bn, bS⟩
    have av := ac.callF 0 rfl au bS (own_lt bn)
    obtain ⟨bo, bp, rfl, fO⟩ := own_form bn
    have am := af.trans au (fun x_ hx_ => .inl (List.mem_cons_of_mem _ hx_))
    refine ⟨_, rfl, am, ?_⟩
    have c7 := own_fr c2 au (ac.disj 1 0 rfl rfl (by decide))
    have c8 := own_fr c3 au (ac.disj 2 0 rfl rfl (by decide))
    have c9 := own_fr c4 au (ac.disj 3 0 rfl rfl (by decide))
    have da := svcsIn.fr c5 au (ac.disj 4 0 rfl rfl (by decide))
    have db := own_fr c6 au (ac.disj 5 0 rfl rfl (by decide))
    refine WDq (NPt hN) 12 40 (.tuple #[.slice bo ((putK kS xs (⟨s.v, a7, a8⟩ : Svc) (decide (s.v.ends.length = 0))).length) bp, .bool (hasK kS (kV s.v) xs)]) am ?_
    refine WDq (NPt hN) 13 53 (.slice bo ((putK kS xs (⟨s.v, a7, a8⟩ : Svc) (decide (s.v.ends.length = 0))).length) bp) am ?_
    refine WDq (NPt hN) 14 54 (.bool (hasK kS (kV s.v) xs)) am ?_
    refine WDq (NPt hN) 15 55 (.pointer (some ⟨p, 0, none⟩)) am ?_
    refine WDq (NPt hN) 16 56 (.pointer (some ⟨p, 0, none⟩)) am ?_
    refine WDq (NPt hN) 17 57 (.pointer (some ⟨p, 2, none⟩)) am ?_
    obtain ⟨fP, dc, aw, an⟩ := sto_run (c' := #[.int .i64 V.epoch, .int .i64 V.now, .slice bo ((putK kS xs (⟨s.v, a7, a8⟩ : Svc) (decide (s.v.ends.length = 0))).length) bp, .slice AN V.snats.length cN, .slice AK V.sick.length cK, .slice AL V.leases.length cL]) Tryz.prog av 0 26 p 2 (.slice bo ((putK kS xs (⟨s.v, a7, a8⟩ : Svc) (decide (s.v.ends.length = 0))).length) bp) rfl (by kernel_rfl)
    have b3 := am.trans aw (by first | (simp; done) | (simp [*]; done) | (have q_ := am.size; simp; omega))
    refine WD.semU 18 (Instr.storeAt 26 (.pointer (some ⟨p, 2, none⟩)) (.slice bo ((putK kS xs (⟨s.v, a7, a8⟩ : Svc) (decide (s.v.ends.length = 0))).length) bp)) (by kernel_rfl) (by kernel_rfl) dc b3 ?_
    have b4 := own_fr bn aw (av.apartM 0 0 rfl rfl)
    have b5 := own_fr c7 aw (av.apartM 1 0 rfl rfl)
    have b6 := own_fr c8 aw (av.apartM 2 0 rfl rfl)
    have b7 := own_fr c9 aw (av.apartM 3 0 rfl rfl)
    have b8 := svcsIn.fr da aw (av.apartM 4 0 rfl rfl)
    have b9 := own_fr db aw (av.apartM 5 0 rfl rfl)
    refine WDq (NPt hN) 19 6 (.bool (hasK kS (kV s.v) xs)) b3 ?_
    refine WD.done (by kernel_rfl) ?_
    refine QXn (bm _ _ ?_)
    refine WCs (fun gg bq => ?_)
    refine WCs (fun gh bb => ?_)
    refine WCg (WLq 1 [(58, .pointer (some ⟨g3, 3, none⟩))] ?_)
    refine WLo 41 (.pointer (some ⟨g3, 3, none⟩)) (.slice a7 s.v.ends.length a8) 59 (run_ld (an.get 1 rfl) rfl) ?_
    refine WLq 2 [(61, .bool ((s.v.ends.length : Int) == 0)), (60, .int .i64 (s.v.ends.length : Int))] ?_
    refine WLt (show (.bool ((s.v.ends.length : Int) == 0) : Value) = .bool (decide (s.v.ends.length = 0)) from by congr 1; rw [Bool.eq_iff_iff]; simp) ?_
    refine WLq 1 [(62, .bool (decide (s.v.ends.length = 0)))] ?_
    refine WLa 62 (decide (s.v.ends.length = 0)) rfl (fun br => ?_) (fun br => ?_)
    ·
     have fQ : s.v.ends.length = 0 := of_decide_eq_true br
     refine WLq 3 [(65, .bool (!(hasK kS (kV s.v) xs))), (64, .bool (!(hasK kS (kV s.v) xs))), (63, .bool (hasK kS (kV s.v) xs))] (WLd rfl (QXn (bb _ _ ?_)))
     refine WC.know 65 (.bool (!(hasK kS (kV s.v) xs))) (.bool true) rfl (congrArg Value.bool (by exact a5)) ?_
     refine WCt rfl ?_
     refine WCs (fun gi ca => ?_)
     refine WCg (WLq 1 [(66, .iface 118 (.int .i64 6))] ?_)
     refine WLc rfl rfl rfl rfl rfl (by kernel_rfl) (result_err 6 fP) ?_
     rintro _ gj ⟨rfl, ax⟩
     refine ⟨_, rfl, ?_⟩
     have ay := an.call ax
     have dd := own_fr b4 ax (by simp)
     have de := own_fr b5 ax (by simp)
     have df := own_fr b6 ax (by simp)
     have dg := own_fr b7 ax (by simp)
     have dh := svcsIn.fr b8 ax (by simp)
     have di := own_fr b9 ax (by simp)
     refine WLs (c' := #[.int .i64 6, .int .u32 0, .int .i64 0, .int .u32 0, .int .i64 0]) ay 2 52 b2 0 (.agg #[.int .i64 6, .int .u32 0, .int .i64 0, .int .u32 0, .int .i64 0]) (by kernel_rfl) rfl (by kernel_rfl) (fun fR aM cb => ?_)
     have dj := own_fr dd aM (ay.apartM 0 2 rfl rfl)
     have dk := own_fr de aM (ay.apartM 1 2 rfl rfl)
     have dl := own_fr df aM (ay.apartM 2 2 rfl rfl)
     have dm := own_fr dg aM (ay.apartM 3 2 rfl rfl)
     have dn := svcsIn.fr dh aM (ay.apartM 4 2 rfl rfl)
     have cc := own_fr di aM (ay.apartM 5 2 rfl rfl)
     refine WLd rfl (QXn (ca _ _ ?_))
     refine WC.ret ?_
     refine QXr ?_
     refine (hret' _ _ (.agg #[.int .i64 6, .int .u32 0, .int .i64 0, .int .u32 0, .int .i64 0]) (fun a ha => ?_) ?_).1
     ·
      exact res_run ha ((ResR.cell rfl (run_ld (cb.get 2 rfl) rfl) ResR.nil)) rfl
     clear hN hret hret' ca bb bq bm cI ar aq aX hK2
     have hth_ : thereS V s.v = hasK kS (kV s.v) xs := by unfold thereS; rw [← hvals, hasK_map]
     have hc_ : ¬ (0 < s.v.ends.length ∧ thereS V s.v = false ∧ 32 ≤ V.svcs.length) := fun q_ => by obtain ⟨q1_, q2_, q3_⟩ := q_; rw [hth_] at q2_; first | omega | (exact absurd q2_ (by rw [bM]; decide))
     have hV_ : svcC V s.v = { V with svcs := putK kV V.svcs s.v (decide (s.v.ends.length = 0)) } := by unfold svcC; rw [if_neg hc_]
     rw [hV_]
     have hsv_ : svcAt fR (⟨s.v, a7, a8⟩ : Svc) := ⟨own_rd cc cellsE_len (by decide), hs.wfe, hs.vip, hs.proto, hs.port, hs.lim, own_le cc⟩
     have dp := Cx_join cb 4 5 rfl rfl (by decide)
     have dq := Cx.pickM dp [0] [0, 1, 2, 3, 4] (by decide) rfl rfl
     obtain ⟨dr, cM, bT⟩ := cfg_close (V := { V with svcs := putK kV V.svcs s.v (decide (s.v.ends.length = 0)) }) (xs := putK kS xs (⟨s.v, a7, a8⟩ : Svc) (decide (s.v.ends.length = 0))) dq dj dk dl dm (dn.put hssx_ hsv_) (by rw [putK_map, hvals])
     have hR_ : svcR V s.v = errR 6 := by unfold svcR; rw [if_neg hc_, if_pos ⟨by omega, by rw [hth_]; exact bM⟩]
     rw [hR_]
     exact ⟨_, rfl, cM, dr, bT⟩
    ·
     have fQ : ¬ (s.v.ends.length = 0) := of_decide_eq_false br
     refine WLq 3 [(65, .bool false), (64, undef), (63, undef)] (WLd rfl (QXn (bb _ _ ?_)))
     refine WCf rfl (WC.skip (QXn (bq _ _ ?_)))
     refine WCs (fun gk cd => ?_)
     refine WCg (WLq 1 [(68, .agg #[.int .i64 0, .int .u32 0, .int .i64 0, .int .u32 0, .int .i64 0])] ?_)
     refine WLs (c' := #[.int .i64 0, .int .u32 0, .int .i64 0, .int .u32 0, .int .i64 0]) an 2 52 b2 0 (.agg #[.int .i64 0, .int .u32 0, .int .i64 0, .int .u32 0, .int .i64 0]) (by kernel_rfl) rfl (by kernel_rfl) (fun fS aN ce => ?_)
     have ds := own_fr b4 aN (an.apartM 0 2 rfl rfl)
     have dt := own_fr b5 aN (an.apartM 1 2 rfl rfl)
     have du := own_fr b6 aN (an.apartM 2 2 rfl rfl)
     have dv := own_fr b7 aN (an.apartM 3 2 rfl rfl)
     have dw := svcsIn.fr b8 aN (an.apartM 4 2 rfl rfl)
     have cf := own_fr b9 aN (an.apartM 5 2 rfl rfl)
     refine WLd rfl (QXn (cd _ _ ?_))
     refine WC.ret ?_
     refine (hret' _ _ (.agg #[.int .i64 0, .int .u32 0, .int .i64 0, .int .u32 0, .int .i64 0]) (fun a ha => ?_) ?_).1
     ·
      exact res_run ha ((ResR.cell rfl (run_ld (ce.get 2 rfl) rfl) ResR.nil)) rfl
     clear hN hret hret' cd bb bq bm cI ar aq aX hK2
     have hth_ : thereS V s.v = hasK kS (kV s.v) xs := by unfold thereS; rw [← hvals, hasK_map]
     have hc_ : ¬ (0 < s.v.ends.length ∧ thereS V s.v = false ∧ 32 ≤ V.svcs.length) := fun q_ => by obtain ⟨q1_, q2_, q3_⟩ := q_; rw [hth_] at q2_; first | omega | (exact absurd q2_ (by rw [bM]; decide))
     have hV_ : svcC V s.v = { V with svcs := putK kV V.svcs s.v (decide (s.v.ends.length = 0)) } := by unfold svcC; rw [if_neg hc_]
     rw [hV_]
     have hsv_ : svcAt fS (⟨s.v, a7, a8⟩ : Svc) := ⟨own_rd cf cellsE_len (by decide), hs.wfe, hs.vip, hs.proto, hs.port, hs.lim, own_le cf⟩
     have dx := Cx_join ce 4 5 rfl rfl (by decide)
     have dy := Cx.pickM dx [0] [0, 1, 2, 3, 4] (by decide) rfl rfl
     obtain ⟨dz, cO, bU⟩ := cfg_close (V := { V with svcs := putK kV V.svcs s.v (decide (s.v.ends.length = 0)) }) (xs := putK kS xs (⟨s.v, a7, a8⟩ : Svc) (decide (s.v.ends.length = 0))) dy ds dt du dv (dw.put hssx_ hsv_) (by rw [putK_map, hvals])
     have hR_ : svcR V s.v = okR := by unfold svcR; rw [if_neg hc_, if_neg (fun q_ => by obtain ⟨q1_, q2_⟩ := q_; rw [hth_] at q2_; first | omega | (exact absurd q2_ (by rw [bM]; decide)))]
     rw [hR_]
     exact ⟨_, rfl, cO, dz, bU⟩
  ·
   have bM : (hasK kS (kV s.v) xs) = true := by first | (simpa only [Bool.not_eq_true', Bool.not_eq_false'] using a5) | simpa using a5
   refine WLq 8 [(33, .bool false), (32, undef), (31, undef), (30, undef), (29, undef), (28, undef), (27, undef), (26, undef)] (WLd rfl (QXn (ar _ _ ?_)))
   refine WCf rfl (WC.skip (QXn (aq _ _ ?_)))
   refine WCs (fun gl bs => ?_)
   refine WCg (WLq 1 [(36, .pointer (some ⟨g3, 3, none⟩))] ?_)
   refine WLo 41 (.pointer (some ⟨g3, 3, none⟩)) (.slice s.a s.v.ends.length s.c) 37 (run_ld (aY.get 1 rfl) rfl) ?_
   refine WLc rfl rfl rfl rfl rfl (by kernel_rfl) (CloneE_n s.a s.v.ends.length s.c s.v.ends e9 (Rd.fr hs.rd a4) rfl hs.lim) ?_
   rintro _ gm ⟨ak, al, rfl, az, bt⟩
   have aA := aY.callN az (own_ge bt) (own_lt bt)
   have dA := own_base (b' := 0) bt (fun _ _ => Nat.zero_le _)
   refine ⟨_, rfl, ?_⟩
   have dB := own_fr bN az (by simp)
   have dC := own_fr bO az (by simp)
   have dD := own_fr bP az (by simp)
   have dE := own_fr bQ az (by simp)
   have dF := svcsIn.fr bR az (by simp)
   have f5 := a4.trans az (by simp)
   refine WLq 1 [(39, .pointer (some ⟨g3, 3, none⟩))] ?_
   refine WLs (c' := #[.int .u32 s.v.vip, .int .i64 s.v.proto, .int .i64 s.v.port, .slice ak s.v.ends.length al]) aA 1 41 g3 3 (.slice ak s.v.ends.length al) (by kernel_rfl) rfl (by kernel_rfl) (fun gn aO dG => ?_)
   have dH := own_fr dB aO (aA.apartM 0 1 rfl rfl)
   have dI := own_fr dC aO (aA.apartM 1 1 rfl rfl)
   have dJ := own_fr dD aO (aA.apartM 2 1 rfl rfl)
   have dK := own_fr dE aO (aA.apartM 3 1 rfl rfl)
   have dL := svcsIn.fr dF aO (aA.apartM 4 1 rfl rfl)
   have dM := own_fr dA aO (aA.apartM 5 1 rfl rfl)
   refine WLd rfl (QXn (bs _ _ ?_))
   refine WCs (fun go bu => ?_)
   refine WC.drawC dG (p :: blk (.slice AS xs.length cS)) (by kernel_rfl) (fun fT aP ad ag => ?_)
   have dN := own_fr dH aP (by simp)
   have dO := own_fr dI aP (by simp)
   have dP := own_fr dJ aP (by simp)
   have dQ := own_fr dK aP (by simp)
   have dR := svcsIn.fr dL aP (by simp)
   have dS := own_fr dM aP (by simp)
   refine WDq (NPt hN) 0 41 (.pointer (some ⟨p, 0, none⟩)) ag ?_
   refine WDq (NPt hN) 1 42 (.pointer (some ⟨p, 0, none⟩)) ag ?_
   refine WDq (NPt hN) 2 43 (.pointer (some ⟨p, 0, none⟩)) ag ?_
   refine WDq (NPt hN) 3 44 (.pointer (some ⟨p, 0, none⟩)) ag ?_
   refine WDq (NPt hN) 4 45 (.pointer (some ⟨p, 2, none⟩)) ag ?_
   refine WDq (NPt hN) 7 48 (.pointer (some ⟨g3, 3, none⟩)) ag ?_
   refine WDm (NPt hN) 6 43 (.pointer (some ⟨g3, 0, none⟩)) (.agg #[.int .u32 s.v.vip, .int .i64 s.v.proto, .int .i64 s.v.port, .slice ak s.v.ends.length al]) 47 (fun _ hS_ => run_ld (Fr.has hS_ (ad.get 1 rfl) (fun h_ => (List.mem_cons.1 h_).elim (ad.ne 1 0 rfl rfl (by decide)) (ad.notin 0 1 rfl rfl))) rfl) ag ?_
   refine WDm (NPt hN) 8 41 (.pointer (some ⟨g3, 3, none⟩)) (.slice ak s.v.ends.length al) 49 (fun _ hS_ => run_ld (Fr.has hS_ (ad.get 1 rfl) (fun h_ => (List.mem_cons.1 h_).elim (ad.ne 1 0 rfl rfl (by decide)) (ad.notin 0 1 rfl rfl))) rfl) ag ?_
   refine WDq (NPt hN) 9 50 (.int .i64 (s.v.ends.length : Int)) ag ?_
   refine WDq (NPt hN) 10 51 (.bool ((s.v.ends.length : Int) == 0)) ag ?_
   refine WD.recast (show (.bool ((s.v.ends.length : Int) == 0) : Value) = .bool (decide (s.v.ends.length = 0)) from by congr 1; rw [Bool.eq_iff_iff]; simp) ?_
   refine WD.sem 5 (Instr.loadAt 26 (.pointer (some ⟨p, 2, none⟩))) 46 (.slice AS xs.length cS) (by kernel_rfl) (by kernel_rfl) (run_ld (ad.get 0 rfl) rfl) ag ?_
   refine WD.call 11 (by kernel_rfl) rfl rfl rfl rfl rfl (by kernel_rfl) (putS_ct AS xs.length cS xs (⟨s.v, ak, al⟩ : Svc) (decide (s.v.ends.length = 0)) fT dN (hssx_) (by omega)) ?_
   rintro _ gp ⟨v_, rfl, aB, bv, bV⟩
   have aC := ad.callF 0 rfl aB bV (own_lt bv)
   obtain ⟨bw, bx, rfl, fU⟩ := own_form bv
   have ao := ag.trans aB (fun x_ hx_ => .inl (List.mem_cons_of_mem _ hx_))
   refine ⟨_, rfl, ao, ?_⟩
   have dT := own_fr dO aB (ad.disj 1 0 rfl rfl (by decide))
   have dU := own_fr dP aB (ad.disj 2 0 rfl rfl (by decide))
   have dV := own_fr dQ aB (ad.disj 3 0 rfl rfl (by decide))
   have dW := svcsIn.fr dR aB (ad.disj 4 0 rfl rfl (by decide))
   have dX := own_fr dS aB (ad.disj 5 0 rfl rfl (by decide))
   refine WDq (NPt hN) 12 40 (.tuple #[.slice bw ((putK kS xs (⟨s.v, ak, al⟩ : Svc) (decide (s.v.ends.length = 0))).length) bx, .bool (hasK kS (kV s.v) xs)]) ao ?_
   refine WDq (NPt hN) 13 53 (.slice bw ((putK kS xs (⟨s.v, ak, al⟩ : Svc) (decide (s.v.ends.length = 0))).length) bx) ao ?_
   refine WDq (NPt hN) 14 54 (.bool (hasK kS (kV s.v) xs)) ao ?_
   refine WDq (NPt hN) 15 55 (.pointer (some ⟨p, 0, none⟩)) ao ?_
   refine WDq (NPt hN) 16 56 (.pointer (some ⟨p, 0, none⟩)) ao ?_
   refine WDq (NPt hN) 17 57 (.pointer (some ⟨p, 2, none⟩)) ao ?_
   obtain ⟨gq, dY, aD, ab⟩ := sto_run (c' := #[.int .i64 V.epoch, .int .i64 V.now, .slice bw ((putK kS xs (⟨s.v, ak, al⟩ : Svc) (decide (s.v.ends.length = 0))).length) bx, .slice AN V.snats.length cN, .slice AK V.sick.length cK, .slice AL V.leases.length cL]) Tryz.prog aC 0 26 p 2 (.slice bw ((putK kS xs (⟨s.v, ak, al⟩ : Svc) (decide (s.v.ends.length = 0))).length) bx) rfl (by kernel_rfl)
   have cg := ao.trans aD (by first | (simp; done) | (simp [*]; done) | (have q_ := ao.size; simp; omega))
   refine WD.semU 18 (Instr.storeAt 26 (.pointer (some ⟨p, 2, none⟩)) (.slice bw ((putK kS xs (⟨s.v, ak, al⟩ : Svc) (decide (s.v.ends.length = 0))).length) bx)) (by kernel_rfl) (by kernel_rfl) dY cg ?_
   have ch := own_fr bv aD (aC.apartM 0 0 rfl rfl)
   have ci := own_fr dT aD (aC.apartM 1 0 rfl rfl)
   have cj := own_fr dU aD (aC.apartM 2 0 rfl rfl)
   have ck := own_fr dV aD (aC.apartM 3 0 rfl rfl)
   have cl := svcsIn.fr dW aD (aC.apartM 4 0 rfl rfl)
   have cm := own_fr dX aD (aC.apartM 5 0 rfl rfl)
   refine WDq (NPt hN) 19 6 (.bool (hasK kS (kV s.v) xs)) cg ?_
   refine WD.done (by kernel_rfl) ?_
   refine QXn (bu _ _ ?_)
   refine WCs (fun gr bc => ?_)
   refine WCs (fun gs bd => ?_)
   refine WCg (WLq 1 [(58, .pointer (some ⟨g3, 3, none⟩))] ?_)
   refine WLo 41 (.pointer (some ⟨g3, 3, none⟩)) (.slice ak s.v.ends.length al) 59 (run_ld (ab.get 1 rfl) rfl) ?_
   refine WLq 2 [(61, .bool ((s.v.ends.length : Int) == 0)), (60, .int .i64 (s.v.ends.length : Int))] ?_
   refine WLt (show (.bool ((s.v.ends.length : Int) == 0) : Value) = .bool (decide (s.v.ends.length = 0)) from by congr 1; rw [Bool.eq_iff_iff]; simp) ?_
   refine WLq 1 [(62, .bool (decide (s.v.ends.length = 0)))] ?_
   refine WLa 62 (decide (s.v.ends.length = 0)) rfl (fun bz => ?_) (fun bz => ?_)
   ·
    have fV : s.v.ends.length = 0 := of_decide_eq_true bz
    refine WLq 3 [(65, .bool (!(hasK kS (kV s.v) xs))), (64, .bool (!(hasK kS (kV s.v) xs))), (63, .bool (hasK kS (kV s.v) xs))] (WLd rfl (QXn (bd _ _ ?_)))
    refine WC.know 65 (.bool (!(hasK kS (kV s.v) xs))) (.bool false) rfl (congrArg Value.bool (by exact a5)) ?_
    refine WCf rfl (WC.skip (QXn (bc _ _ ?_)))
    refine WCs (fun gu cn => ?_)
    refine WCg (WLq 1 [(68, .agg #[.int .i64 0, .int .u32 0, .int .i64 0, .int .u32 0, .int .i64 0])] ?_)
    refine WLs (c' := #[.int .i64 0, .int .u32 0, .int .i64 0, .int .u32 0, .int .i64 0]) ab 2 52 b2 0 (.agg #[.int .i64 0, .int .u32 0, .int .i64 0, .int .u32 0, .int .i64 0]) (by kernel_rfl) rfl (by kernel_rfl) (fun fW aQ co => ?_)
    have dZ := own_fr ch aQ (ab.apartM 0 2 rfl rfl)
    have d0 := own_fr ci aQ (ab.apartM 1 2 rfl rfl)
    have d1 := own_fr cj aQ (ab.apartM 2 2 rfl rfl)
    have d2 := own_fr ck aQ (ab.apartM 3 2 rfl rfl)
    have d3 := svcsIn.fr cl aQ (ab.apartM 4 2 rfl rfl)
    have cp := own_fr cm aQ (ab.apartM 5 2 rfl rfl)
    refine WLd rfl (QXn (cn _ _ ?_))
    refine WC.ret ?_
    refine (hret' _ _ (.agg #[.int .i64 0, .int .u32 0, .int .i64 0, .int .u32 0, .int .i64 0]) (fun a ha => ?_) ?_).1
    ·
     exact res_run ha ((ResR.cell rfl (run_ld (co.get 2 rfl) rfl) ResR.nil)) rfl
    clear hN hret hret' cn bd bc bu bs ar aq aX hK2
    have hth_ : thereS V s.v = hasK kS (kV s.v) xs := by unfold thereS; rw [← hvals, hasK_map]
    have hc_ : ¬ (0 < s.v.ends.length ∧ thereS V s.v = false ∧ 32 ≤ V.svcs.length) := fun q_ => by obtain ⟨q1_, q2_, q3_⟩ := q_; rw [hth_] at q2_; first | omega | (exact absurd q2_ (by rw [bM]; decide))
    have hV_ : svcC V s.v = { V with svcs := putK kV V.svcs s.v (decide (s.v.ends.length = 0)) } := by unfold svcC; rw [if_neg hc_]
    rw [hV_]
    have hsv_ : svcAt fW (⟨s.v, ak, al⟩ : Svc) := ⟨own_rd cp cellsE_len (by decide), hs.wfe, hs.vip, hs.proto, hs.port, hs.lim, own_le cp⟩
    have d4 := Cx_join co 4 5 rfl rfl (by decide)
    have d5 := Cx.pickM d4 [0] [0, 1, 2, 3, 4] (by decide) rfl rfl
    obtain ⟨d6, cP, bW⟩ := cfg_close (V := { V with svcs := putK kV V.svcs s.v (decide (s.v.ends.length = 0)) }) (xs := putK kS xs (⟨s.v, ak, al⟩ : Svc) (decide (s.v.ends.length = 0))) d5 dZ d0 d1 d2 (d3.put hssx_ hsv_) (by rw [putK_map, hvals])
    have hR_ : svcR V s.v = okR := by unfold svcR; rw [if_neg hc_, if_neg (fun q_ => by obtain ⟨q1_, q2_⟩ := q_; rw [hth_] at q2_; first | omega | (exact absurd q2_ (by rw [bM]; decide)))]
    rw [hR_]
    exact ⟨_, rfl, cP, d6, bW⟩
   ·
    have fV : ¬ (s.v.ends.length = 0) := of_decide_eq_false bz
    refine WLq 3 [(65, .bool false), (64, undef), (63, undef)] (WLd rfl (QXn (bd _ _ ?_)))
    refine WCf rfl (WC.skip (QXn (bc _ _ ?_)))
    refine WCs (fun gv cq => ?_)
    refine WCg (WLq 1 [(68, .agg #[.int .i64 0, .int .u32 0, .int .i64 0, .int .u32 0, .int .i64 0])] ?_)
    refine WLs (c' := #[.int .i64 0, .int .u32 0, .int .i64 0, .int .u32 0, .int .i64 0]) ab 2 52 b2 0 (.agg #[.int .i64 0, .int .u32 0, .int .i64 0, .int .u32 0, .int .i64 0]) (by kernel_rfl) rfl (by kernel_rfl) (fun fX aR cr => ?_)
    have d7 := own_fr ch aR (ab.apartM 0 2 rfl rfl)
    have d8 := own_fr ci aR (ab.apartM 1 2 rfl rfl)
    have d9 := own_fr cj aR (ab.apartM 2 2 rfl rfl)
    have ea := own_fr ck aR (ab.apartM 3 2 rfl rfl)
    have eb := svcsIn.fr cl aR (ab.apartM 4 2 rfl rfl)
    have cs := own_fr cm aR (ab.apartM 5 2 rfl rfl)
    refine WLd rfl (QXn (cq _ _ ?_))
    refine WC.ret ?_
    refine (hret' _ _ (.agg #[.int .i64 0, .int .u32 0, .int .i64 0, .int .u32 0, .int .i64 0]) (fun a ha => ?_) ?_).1
    ·
     exact res_run ha ((ResR.cell rfl (run_ld (cr.get 2 rfl) rfl) ResR.nil)) rfl
    clear hN hret hret' cq bd bc bu bs ar aq aX hK2
    have hth_ : thereS V s.v = hasK kS (kV s.v) xs := by unfold thereS; rw [← hvals, hasK_map]
    have hc_ : ¬ (0 < s.v.ends.length ∧ thereS V s.v = false ∧ 32 ≤ V.svcs.length) := fun q_ => by obtain ⟨q1_, q2_, q3_⟩ := q_; rw [hth_] at q2_; first | omega | (exact absurd q2_ (by rw [bM]; decide))
    have hV_ : svcC V s.v = { V with svcs := putK kV V.svcs s.v (decide (s.v.ends.length = 0)) } := by unfold svcC; rw [if_neg hc_]
    rw [hV_]
    have hsv_ : svcAt fX (⟨s.v, ak, al⟩ : Svc) := ⟨own_rd cs cellsE_len (by decide), hs.wfe, hs.vip, hs.proto, hs.port, hs.lim, own_le cs⟩
    have ec := Cx_join cr 4 5 rfl rfl (by decide)
    have ed := Cx.pickM ec [0] [0, 1, 2, 3, 4] (by decide) rfl rfl
    obtain ⟨ee, cQ, bX⟩ := cfg_close (V := { V with svcs := putK kV V.svcs s.v (decide (s.v.ends.length = 0)) }) (xs := putK kS xs (⟨s.v, ak, al⟩ : Svc) (decide (s.v.ends.length = 0))) ed d7 d8 d9 ea (eb.put hssx_ hsv_) (by rw [putK_map, hvals])
    have hR_ : svcR V s.v = okR := by unfold svcR; rw [if_neg hc_, if_neg (fun q_ => by obtain ⟨q1_, q2_⟩ := q_; rw [hth_] at q2_; first | omega | (exact absurd q2_ (by rw [bM]; decide)))]
    rw [hR_]
    exact ⟨_, rfl, cQ, ee, bX⟩
 ·
  have f9 : (s.v.ends.length : Int) ≤ 0 := by have q_ := of_decide_eq_false cF; omega
  refine WLq 12 [(33, .bool false), (32, undef), (31, undef), (30, undef), (29, undef), (28, undef), (27, undef), (26, undef), (25, .bool false), (24, .bool false), (23, undef), (22, undef)] (WLd rfl (QXn (ar _ _ ?_)))
  refine WCf rfl (WC.skip (QXn (aq _ _ ?_)))
  refine WCs (fun gw be => ?_)
  refine WCg (WLq 1 [(36, .pointer (some ⟨g3, 3, none⟩))] ?_)
  refine WLo 41 (.pointer (some ⟨g3, 3, none⟩)) (.slice s.a s.v.ends.length s.c) 37 (run_ld (aY.get 1 rfl) rfl) ?_
  refine WLc rfl rfl rfl rfl rfl (by kernel_rfl) (CloneE_n s.a s.v.ends.length s.c s.v.ends e9 (Rd.fr hs.rd a4) rfl hs.lim) ?_
  rintro _ gx ⟨ai, aj, rfl, aE, bA⟩
  have aF := aY.callN aE (own_ge bA) (own_lt bA)
  have ef := own_base (b' := 0) bA (fun _ _ => Nat.zero_le _)
  refine ⟨_, rfl, ?_⟩
  have eg := own_fr bN aE (by simp)
  have eh := own_fr bO aE (by simp)
  have ei := own_fr bP aE (by simp)
  have ej := own_fr bQ aE (by simp)
  have ek := svcsIn.fr bR aE (by simp)
  have f6 := a4.trans aE (by simp)
  refine WLq 1 [(39, .pointer (some ⟨g3, 3, none⟩))] ?_
  refine WLs (c' := #[.int .u32 s.v.vip, .int .i64 s.v.proto, .int .i64 s.v.port, .slice ai s.v.ends.length aj]) aF 1 41 g3 3 (.slice ai s.v.ends.length aj) (by kernel_rfl) rfl (by kernel_rfl) (fun gy aS el => ?_)
  have em := own_fr eg aS (aF.apartM 0 1 rfl rfl)
  have en := own_fr eh aS (aF.apartM 1 1 rfl rfl)
  have eo := own_fr ei aS (aF.apartM 2 1 rfl rfl)
  have ep := own_fr ej aS (aF.apartM 3 1 rfl rfl)
  have er := svcsIn.fr ek aS (aF.apartM 4 1 rfl rfl)
  have es := own_fr ef aS (aF.apartM 5 1 rfl rfl)
  refine WLd rfl (QXn (be _ _ ?_))
  refine WCs (fun gz bf => ?_)
  refine WC.drawC el (p :: blk (.slice AS xs.length cS)) (by kernel_rfl) (fun fY aT ae ah => ?_)
  have et := own_fr em aT (by simp)
  have eu := own_fr en aT (by simp)
  have ev := own_fr eo aT (by simp)
  have ew := own_fr ep aT (by simp)
  have ex := svcsIn.fr er aT (by simp)
  have ey := own_fr es aT (by simp)
  refine WDq (NPt hN) 0 41 (.pointer (some ⟨p, 0, none⟩)) ah ?_
  refine WDq (NPt hN) 1 42 (.pointer (some ⟨p, 0, none⟩)) ah ?_
  refine WDq (NPt hN) 2 43 (.pointer (some ⟨p, 0, none⟩)) ah ?_
  refine WDq (NPt hN) 3 44 (.pointer (some ⟨p, 0, none⟩)) ah ?_
  refine WDq (NPt hN) 4 45 (.pointer (some ⟨p, 2, none⟩)) ah ?_
  refine WDq (NPt hN) 7 48 (.pointer (some ⟨g3, 3, none⟩)) ah ?_
  refine WDm (NPt hN) 6 43 (.pointer (some ⟨g3, 0, none⟩)) (.agg #[.int .u32 s.v.vip, .int .i64 s.v.proto, .int .i64 s.v.port, .slice ai s.v.ends.length aj]) 47 (fun _ hS_ => run_ld (Fr.has hS_ (ae.get 1 rfl) (fun h_ => (List.mem_cons.1 h_).elim (ae.ne 1 0 rfl rfl (by decide)) (ae.notin 0 1 rfl rfl))) rfl) ah ?_
  refine WDm (NPt hN) 8 41 (.pointer (some ⟨g3, 3, none⟩)) (.slice ai s.v.ends.length aj) 49 (fun _ hS_ => run_ld (Fr.has hS_ (ae.get 1 rfl) (fun h_ => (List.mem_cons.1 h_).elim (ae.ne 1 0 rfl rfl (by decide)) (ae.notin 0 1 rfl rfl))) rfl) ah ?_
  refine WDq (NPt hN) 9 50 (.int .i64 (s.v.ends.length : Int)) ah ?_
  refine WDq (NPt hN) 10 51 (.bool ((s.v.ends.length : Int) == 0)) ah ?_
  refine WD.recast (show (.bool ((s.v.ends.length : Int) == 0) : Value) = .bool (decide (s.v.ends.length = 0)) from by congr 1; rw [Bool.eq_iff_iff]; simp) ?_
  refine WD.sem 5 (Instr.loadAt 26 (.pointer (some ⟨p, 2, none⟩))) 46 (.slice AS xs.length cS) (by kernel_rfl) (by kernel_rfl) (run_ld (ae.get 0 rfl) rfl) ah ?_
  refine WD.call 11 (by kernel_rfl) rfl rfl rfl rfl rfl (by kernel_rfl) (putS_ct AS xs.length cS xs (⟨s.v, ai, aj⟩ : Svc) (decide (s.v.ends.length = 0)) fY et (hssx_) (by omega)) ?_
  rintro _ gA ⟨v_, rfl, aG, bB, bY⟩
  have aH := ae.callF 0 rfl aG bY (own_lt bB)
  obtain ⟨bC, bD, rfl, fZ⟩ := own_form bB
  have ap := ah.trans aG (fun x_ hx_ => .inl (List.mem_cons_of_mem _ hx_))
  refine ⟨_, rfl, ap, ?_⟩
  have ez := own_fr eu aG (ae.disj 1 0 rfl rfl (by decide))
  have eA := own_fr ev aG (ae.disj 2 0 rfl rfl (by decide))
  have eB := own_fr ew aG (ae.disj 3 0 rfl rfl (by decide))
  have eC := svcsIn.fr ex aG (ae.disj 4 0 rfl rfl (by decide))
  have eD := own_fr ey aG (ae.disj 5 0 rfl rfl (by decide))
  refine WDq (NPt hN) 12 40 (.tuple #[.slice bC ((putK kS xs (⟨s.v, ai, aj⟩ : Svc) (decide (s.v.ends.length = 0))).length) bD, .bool (hasK kS (kV s.v) xs)]) ap ?_
  refine WDq (NPt hN) 13 53 (.slice bC ((putK kS xs (⟨s.v, ai, aj⟩ : Svc) (decide (s.v.ends.length = 0))).length) bD) ap ?_
  refine WDq (NPt hN) 14 54 (.bool (hasK kS (kV s.v) xs)) ap ?_
  refine WDq (NPt hN) 15 55 (.pointer (some ⟨p, 0, none⟩)) ap ?_
  refine WDq (NPt hN) 16 56 (.pointer (some ⟨p, 0, none⟩)) ap ?_
  refine WDq (NPt hN) 17 57 (.pointer (some ⟨p, 2, none⟩)) ap ?_
  obtain ⟨f0, eE, aI, aa⟩ := sto_run (c' := #[.int .i64 V.epoch, .int .i64 V.now, .slice bC ((putK kS xs (⟨s.v, ai, aj⟩ : Svc) (decide (s.v.ends.length = 0))).length) bD, .slice AN V.snats.length cN, .slice AK V.sick.length cK, .slice AL V.leases.length cL]) Tryz.prog aH 0 26 p 2 (.slice bC ((putK kS xs (⟨s.v, ai, aj⟩ : Svc) (decide (s.v.ends.length = 0))).length) bD) rfl (by kernel_rfl)
  have ct := ap.trans aI (by first | (simp; done) | (simp [*]; done) | (have q_ := ap.size; simp; omega))
  refine WD.semU 18 (Instr.storeAt 26 (.pointer (some ⟨p, 2, none⟩)) (.slice bC ((putK kS xs (⟨s.v, ai, aj⟩ : Svc) (decide (s.v.ends.length = 0))).length) bD)) (by kernel_rfl) (by kernel_rfl) eE ct ?_
  have bE := own_fr bB aI (aH.apartM 0 0 rfl rfl)
  have bF := own_fr ez aI (aH.apartM 1 0 rfl rfl)
  have bG := own_fr eA aI (aH.apartM 2 0 rfl rfl)
  have bH := own_fr eB aI (aH.apartM 3 0 rfl rfl)
  have bI := svcsIn.fr eC aI (aH.apartM 4 0 rfl rfl)
  have bJ := own_fr eD aI (aH.apartM 5 0 rfl rfl)
  refine WDq (NPt hN) 19 6 (.bool (hasK kS (kV s.v) xs)) ct ?_
  refine WD.done (by kernel_rfl) ?_
  refine QXn (bf _ _ ?_)
  refine WCs (fun gB a0 => ?_)
  refine WCs (fun gC a1 => ?_)
  refine WCg (WLq 1 [(58, .pointer (some ⟨g3, 3, none⟩))] ?_)
  refine WLo 41 (.pointer (some ⟨g3, 3, none⟩)) (.slice ai s.v.ends.length aj) 59 (run_ld (aa.get 1 rfl) rfl) ?_
  refine WLq 2 [(61, .bool ((s.v.ends.length : Int) == 0)), (60, .int .i64 (s.v.ends.length : Int))] ?_
  refine WLt (show (.bool ((s.v.ends.length : Int) == 0) : Value) = .bool (decide (s.v.ends.length = 0)) from by congr 1; rw [Bool.eq_iff_iff]; simp) ?_
  refine WLq 1 [(62, .bool (decide (s.v.ends.length = 0)))] ?_
  refine WLa 62 (decide (s.v.ends.length = 0)) rfl (fun bK => ?_) (fun bK => ?_)
  ·
   have f1 : s.v.ends.length = 0 := of_decide_eq_true bK
   refine WLq 3 [(65, .bool (!(hasK kS (kV s.v) xs))), (64, .bool (!(hasK kS (kV s.v) xs))), (63, .bool (hasK kS (kV s.v) xs))] (WLd rfl (QXn (a1 _ _ ?_)))
   refine WCa 65 (!(hasK kS (kV s.v) xs)) rfl (fun a2 => ?_) (fun a2 => ?_)
   ·
    have bL : (hasK kS (kV s.v) xs) = false := by first | (simpa only [Bool.not_eq_true', Bool.not_eq_false'] using a2) | simpa using a2
    refine WCt rfl ?_
    refine WCs (fun gD cu => ?_)
    refine WCg (WLq 1 [(66, .iface 118 (.int .i64 6))] ?_)
    refine WLc rfl rfl rfl rfl rfl (by kernel_rfl) (result_err 6 f0) ?_
    rintro _ gE ⟨rfl, aJ⟩
    refine ⟨_, rfl, ?_⟩
    have aK := aa.call aJ
    have eF := own_fr bE aJ (by simp)
    have eG := own_fr bF aJ (by simp)
    have eH := own_fr bG aJ (by simp)
    have eI := own_fr bH aJ (by simp)
    have eJ := svcsIn.fr bI aJ (by simp)
    have eK := own_fr bJ aJ (by simp)
    refine WLs (c' := #[.int .i64 6, .int .u32 0, .int .i64 0, .int .u32 0, .int .i64 0]) aK 2 52 b2 0 (.agg #[.int .i64 6, .int .u32 0, .int .i64 0, .int .u32 0, .int .i64 0]) (by kernel_rfl) rfl (by kernel_rfl) (fun f2 aU cv => ?_)
    have eL := own_fr eF aU (aK.apartM 0 2 rfl rfl)
    have eM := own_fr eG aU (aK.apartM 1 2 rfl rfl)
    have eN := own_fr eH aU (aK.apartM 2 2 rfl rfl)
    have eO := own_fr eI aU (aK.apartM 3 2 rfl rfl)
    have eP := svcsIn.fr eJ aU (aK.apartM 4 2 rfl rfl)
    have cw := own_fr eK aU (aK.apartM 5 2 rfl rfl)
    refine WLd rfl (QXn (cu _ _ ?_))
    refine WC.ret ?_
    refine QXr ?_
    refine (hret' _ _ (.agg #[.int .i64 6, .int .u32 0, .int .i64 0, .int .u32 0, .int .i64 0]) (fun a ha => ?_) ?_).1
    ·
     exact res_run ha ((ResR.cell rfl (run_ld (cv.get 2 rfl) rfl) ResR.nil)) rfl
    clear hN hret hret' cu a1 a0 bf be ar aq aX hK2
    have hth_ : thereS V s.v = hasK kS (kV s.v) xs := by unfold thereS; rw [← hvals, hasK_map]
    have hc_ : ¬ (0 < s.v.ends.length ∧ thereS V s.v = false ∧ 32 ≤ V.svcs.length) := fun q_ => by obtain ⟨q1_, q2_, q3_⟩ := q_; rw [hth_] at q2_; first | omega | (exact absurd q2_ (by rw [bL]; decide))
    have hV_ : svcC V s.v = { V with svcs := putK kV V.svcs s.v (decide (s.v.ends.length = 0)) } := by unfold svcC; rw [if_neg hc_]
    rw [hV_]
    have hsv_ : svcAt f2 (⟨s.v, ai, aj⟩ : Svc) := ⟨own_rd cw cellsE_len (by decide), hs.wfe, hs.vip, hs.proto, hs.port, hs.lim, own_le cw⟩
    have eQ := Cx_join cv 4 5 rfl rfl (by decide)
    have eR := Cx.pickM eQ [0] [0, 1, 2, 3, 4] (by decide) rfl rfl
    obtain ⟨eS, cR, bZ⟩ := cfg_close (V := { V with svcs := putK kV V.svcs s.v (decide (s.v.ends.length = 0)) }) (xs := putK kS xs (⟨s.v, ai, aj⟩ : Svc) (decide (s.v.ends.length = 0))) eR eL eM eN eO (eP.put hssx_ hsv_) (by rw [putK_map, hvals])
    have hR_ : svcR V s.v = errR 6 := by unfold svcR; rw [if_neg hc_, if_pos ⟨by omega, by rw [hth_]; exact bL⟩]
    rw [hR_]
    exact ⟨_, rfl, cR, eS, bZ⟩
   ·
    have bL : (hasK kS (kV s.v) xs) = true := by first | (simpa only [Bool.not_eq_true', Bool.not_eq_false'] using a2) | simpa using a2
    refine WCf rfl (WC.skip (QXn (a0 _ _ ?_)))
    refine WCs (fun gF cx => ?_)
    refine WCg (WLq 1 [(68, .agg #[.int .i64 0, .int .u32 0, .int .i64 0, .int .u32 0, .int .i64 0])] ?_)
    refine WLs (c' := #[.int .i64 0, .int .u32 0, .int .i64 0, .int .u32 0, .int .i64 0]) aa 2 52 b2 0 (.agg #[.int .i64 0, .int .u32 0, .int .i64 0, .int .u32 0, .int .i64 0]) (by kernel_rfl) rfl (by kernel_rfl) (fun f3 aV cy => ?_)
    have eT := own_fr bE aV (aa.apartM 0 2 rfl rfl)
    have eU := own_fr bF aV (aa.apartM 1 2 rfl rfl)
    have eV := own_fr bG aV (aa.apartM 2 2 rfl rfl)
    have eW := own_fr bH aV (aa.apartM 3 2 rfl rfl)
    have eX := svcsIn.fr bI aV (aa.apartM 4 2 rfl rfl)
    have cz := own_fr bJ aV (aa.apartM 5 2 rfl rfl)
    refine WLd rfl (QXn (cx _ _ ?_))
    refine WC.ret ?_
    refine (hret' _ _ (.agg #[.int .i64 0, .int .u32 0, .int .i64 0, .int .u32 0, .int .i64 0]) (fun a ha => ?_) ?_).1
    ·
     exact res_run ha ((ResR.cell rfl (run_ld (cy.get 2 rfl) rfl) ResR.nil)) rfl
    clear hN hret hret' cx a1 a0 bf be ar aq aX hK2
    have hth_ : thereS V s.v = hasK kS (kV s.v) xs := by unfold thereS; rw [← hvals, hasK_map]
    have hc_ : ¬ (0 < s.v.ends.length ∧ thereS V s.v = false ∧ 32 ≤ V.svcs.length) := fun q_ => by obtain ⟨q1_, q2_, q3_⟩ := q_; rw [hth_] at q2_; first | omega | (exact absurd q2_ (by rw [bL]; decide))
    have hV_ : svcC V s.v = { V with svcs := putK kV V.svcs s.v (decide (s.v.ends.length = 0)) } := by unfold svcC; rw [if_neg hc_]
    rw [hV_]
    have hsv_ : svcAt f3 (⟨s.v, ai, aj⟩ : Svc) := ⟨own_rd cz cellsE_len (by decide), hs.wfe, hs.vip, hs.proto, hs.port, hs.lim, own_le cz⟩
    have eY := Cx_join cy 4 5 rfl rfl (by decide)
    have eZ := Cx.pickM eY [0] [0, 1, 2, 3, 4] (by decide) rfl rfl
    obtain ⟨e0, cT, b0⟩ := cfg_close (V := { V with svcs := putK kV V.svcs s.v (decide (s.v.ends.length = 0)) }) (xs := putK kS xs (⟨s.v, ai, aj⟩ : Svc) (decide (s.v.ends.length = 0))) eZ eT eU eV eW (eX.put hssx_ hsv_) (by rw [putK_map, hvals])
    have hR_ : svcR V s.v = okR := by unfold svcR; rw [if_neg hc_, if_neg (fun q_ => by obtain ⟨q1_, q2_⟩ := q_; rw [hth_] at q2_; first | omega | (exact absurd q2_ (by rw [bL]; decide)))]
    rw [hR_]
    exact ⟨_, rfl, cT, e0, b0⟩
  ·
   have f1 : ¬ (s.v.ends.length = 0) := of_decide_eq_false bK
   refine WLq 3 [(65, .bool false), (64, undef), (63, undef)] (WLd rfl (QXn (a1 _ _ ?_)))
   refine WCf rfl (WC.skip (QXn (a0 _ _ ?_)))
   refine WCs (fun gG cA => ?_)
   refine WCg (WLq 1 [(68, .agg #[.int .i64 0, .int .u32 0, .int .i64 0, .int .u32 0, .int .i64 0])] ?_)
   refine WLs (c' := #[.int .i64 0, .int .u32 0, .int .i64 0, .int .u32 0, .int .i64 0]) aa 2 52 b2 0 (.agg #[.int .i64 0, .int .u32 0, .int .i64 0, .int .u32 0, .int .i64 0]) (by kernel_rfl) rfl (by kernel_rfl) (fun f4 aW cB => ?_)
   have e1 := own_fr bE aW (aa.apartM 0 2 rfl rfl)
   have e2 := own_fr bF aW (aa.apartM 1 2 rfl rfl)
   have e3 := own_fr bG aW (aa.apartM 2 2 rfl rfl)
   have e4 := own_fr bH aW (aa.apartM 3 2 rfl rfl)
   have e5 := svcsIn.fr bI aW (aa.apartM 4 2 rfl rfl)
   have cC := own_fr bJ aW (aa.apartM 5 2 rfl rfl)
   refine WLd rfl (QXn (cA _ _ ?_))
   refine WC.ret ?_
   refine (hret' _ _ (.agg #[.int .i64 0, .int .u32 0, .int .i64 0, .int .u32 0, .int .i64 0]) (fun a ha => ?_) ?_).1
   ·
    exact res_run ha ((ResR.cell rfl (run_ld (cB.get 2 rfl) rfl) ResR.nil)) rfl
   clear hN hret hret' cA a1 a0 bf be ar aq aX hK2
   have hth_ : thereS V s.v = hasK kS (kV s.v) xs := by unfold thereS; rw [← hvals, hasK_map]
   have hc_ : ¬ (0 < s.v.ends.length ∧ thereS V s.v = false ∧ 32 ≤ V.svcs.length) := fun q_ => by obtain ⟨q1_, q2_, q3_⟩ := q_; rw [hth_] at q2_; first | omega
   have hV_ : svcC V s.v = { V with svcs := putK kV V.svcs s.v (decide (s.v.ends.length = 0)) } := by unfold svcC; rw [if_neg hc_]
   rw [hV_]
   have hsv_ : svcAt f4 (⟨s.v, ai, aj⟩ : Svc) := ⟨own_rd cC cellsE_len (by decide), hs.wfe, hs.vip, hs.proto, hs.port, hs.lim, own_le cC⟩
   have e6 := Cx_join cB 4 5 rfl rfl (by decide)
   have e7 := Cx.pickM e6 [0] [0, 1, 2, 3, 4] (by decide) rfl rfl
   obtain ⟨e8, cU, b1⟩ := cfg_close (V := { V with svcs := putK kV V.svcs s.v (decide (s.v.ends.length = 0)) }) (xs := putK kS xs (⟨s.v, ai, aj⟩ : Svc) (decide (s.v.ends.length = 0))) e7 e1 e2 e3 e4 (e5.put hssx_ hsv_) (by rw [putK_map, hvals])
   have hR_ : svcR V s.v = okR := by unfold svcR; rw [if_neg hc_, if_neg (fun q_ => by obtain ⟨q1_, q2_⟩ := q_; rw [hth_] at q2_; first | omega)]
   rw [hR_]
   exact ⟨_, rfl, cU, e8, b1⟩

end Go.Proofs.YtfligklljkcbfaaGreatDoor
