/- Contracts of functions of the program, each proved by a walk through its code; conditions stand in the statements. -/
import Derived.Test.YtlpmmepbfafpfaaRdE15
namespace Go.Proofs.Ytlpmmepbfafpfaa
set_option linter.unusedSimpArgs false
set_option linter.unusedVariables false
set_option linter.unusedSectionVars false
open Go Go.RowKit Go.Tw
set_option linter.unusedVariables false
set_option maxRecDepth 20000
set_option maxHeartbeats 2000000 in
theorem Accepted_ct (F : List Nat) (p : Nat) (T : Rn) (node : Int) (w : World) (ht : rdAt w F p T) (hn0_ : 1 ≤ T.n) (hn1_ : T.n ≤ 8) (hhl_ : T.hv.length ≤ 900) (hwl_ : T.want.length ≤ 1) (hll_ : T.log.length ≤ 70000) : Calls Try.prog 13 #[.pointer (some ⟨p, 0, none⟩), .int .i64 node] w fun e w' => ∃ F2, e = .returned (.int .i64 (accT T node).stage) ∧ Fr w w' F ∧ rdAt w' F2 p (accT T node) ∧ ∀ x ∈ F2, x ∈ F ∨ w.heap.size ≤ x := by
  refine enterD (n := 26) Try.func13 rfl rfl (Nat.le_of_ble_eq_true rfl) ?_
  intro Q0 hN hret hret'
  have ht0 := ht
  obtain ⟨Ah, ch, Aw, cw, Al, cl, hp_, hoh_, how_, hol_, rfl, hnn_, hdd_⟩ := ht
  have hC := Cx.open3 hp_ (own_lt hoh_) (own_lt how_) (own_lt hol_) hnn_ hdd_
  refine WC.seq (fun K1 hK2 => ?_)
  refine WC.region ?_
  refine WL.runs 1 [(4, .int .i64 0)] (fun _ => by kernel_rfl) ?_
  refine WL.done rfl ?_
  refine QX.then_normal (hK2 _ _ ?_)
  refine WC.seq (fun K3 hK4 => ?_)
  refine WC.seq (fun K5 hK6 => ?_)
  refine WC.region ?_
  refine WL.runs 1 [(5, .pointer (some ⟨p, 0, none⟩))] (fun _ => by kernel_rfl) ?_
  refine WL.call rfl rfl rfl rfl rfl (by kernel_rfl) (Stage_ct p T.stage (.int .i64 T.n) (.slice Ah T.hv.length ch) (.int .i64 T.bn) (.int .i64 T.bd) (.slice Aw T.want.length cw) (.int .i64 T.sn) (.int .i64 T.sd) (.slice Al T.log.length cl) w (hC.get 0 rfl)) ?_
  rintro _ w8 ⟨rfl, hF7⟩
  refine ⟨_, rfl, ?_⟩
  have hC9 := hC.call hF7
  have ho10 := own_fr hoh_ hF7 (by simp)
  have ho11 := own_fr how_ hF7 (by simp)
  have ho12 := own_fr hol_ hF7 (by simp)
  have hf13 := (Fr.refl w []).trans hF7 (by simp)
  refine WL.runs 2 [(8, .bool (T.stage == 2)), (7, .bool (T.stage == 2))] (fun _ => by kernel_rfl) ?_
  refine WL.test_at 8 (T.stage == 2) rfl (fun t14b => ?_) (fun t14b => ?_)
  · -- T.stage = 2: true
    have t14 : T.stage = 2 := by simpa using t14b
    refine WL.runs 4 [(12, .int .i64 node), (11, .pointer (some ⟨p, 0, none⟩)), (10, .pointer (some ⟨p, 0, none⟩)), (9, .pointer (some ⟨p, 0, none⟩))] (fun _ => by kernel_rfl) ?_
    refine WL.call rfl rfl rfl rfl rfl (by kernel_rfl) (add_ct p T.n Ah ch T.hv (.int .i64 T.bn) (.int .i64 T.bd) (.slice Aw T.want.length cw) (.int .i64 T.stage) (.int .i64 T.sn) (.int .i64 T.sd) (.slice Al T.log.length cl) node w8 (hC9.get 0 rfl) ho10 (hC9.notin 0 0 rfl rfl) (by omega) (by omega) (by omega)) ?_
    rintro _ w19 ⟨Ah15, ch16, hs17, rfl, hF18, hse24, hg21, ho22, hsub23⟩
    have hC20 := hC9.callMF 0 0 rfl rfl hF18 hg21 hsub23 (own_lt ho22)
    refine ⟨_, rfl, ?_⟩
    have hsl_ : hs17.length ≤ T.hv.length + 1 := by rw [hse24]; split <;> simp
    have ho25 := own_fr ho11 hF18 (fun x_ hx_ h_ => (List.mem_cons.1 h_).elim (fun e_ => absurd (e_ ▸ hx_) (hC9.notin 1 0 rfl rfl)) (hC9.disj 1 0 rfl rfl (by decide) x_ hx_))
    have ho26 := own_fr ho12 hF18 (fun x_ hx_ h_ => (List.mem_cons.1 h_).elim (fun e_ => absurd (e_ ▸ hx_) (hC9.notin 2 0 rfl rfl)) (hC9.disj 2 0 rfl rfl (by decide) x_ hx_))
    refine WL.runs 2 [(15, .bool (addB T.n T.hv node)), (14, .bool (addB T.n T.hv node))] (fun _ => by kernel_rfl) ?_
    refine WL.test_at 15 (addB T.n T.hv node) rfl (fun t27b => ?_) (fun t27b => ?_)
    · -- (addB T.n T.hv node) = true: true
      refine WL.runs 3 [(18, .pointer (some ⟨p, 0, none⟩)), (17, .pointer (some ⟨p, 0, none⟩)), (16, .pointer (some ⟨p, 0, none⟩))] (fun _ => by kernel_rfl) ?_
      refine WL.call rfl rfl rfl rfl rfl (by kernel_rfl) (most_ct p T.n Ah15 ch16 hs17 (.int .i64 T.bn) (.int .i64 T.bd) (.slice Aw T.want.length cw) (.int .i64 T.stage) (.int .i64 T.sn) (.int .i64 T.sd) (.slice Al T.log.length cl) w19 (hC20.get 0 rfl) ho22 (hC20.notin 0 0 rfl rfl) (by omega) (by omega) (by omega)) ?_
      rintro _ w29 ⟨rfl, hF28⟩
      refine ⟨_, rfl, ?_⟩
      have hC30 := hC20.call hF28
      have ho31 := own_fr ho22 hF28 (by simp)
      have ho32 := own_fr ho25 hF28 (by simp)
      have ho33 := own_fr ho26 hF28 (by simp)
      refine WL.runs 1 [(20, .bool (decide (T.n < 2 * (hs17.length : Int))))] (fun _ => by kernel_rfl) ?_
      refine WL.done rfl ?_
      refine QX.then_normal (hK6 _ _ ?_)
      refine WC.test_at 20 (decide (T.n < 2 * (hs17.length : Int))) rfl (fun t34b => ?_) (fun t34b => ?_)
      · -- T.n < 2 * (hs17.length : Int): true
        have t34 : T.n < 2 * (hs17.length : Int) := by have q_ := of_decide_eq_true t34b; omega
        refine WC.cond_true rfl ?_
        refine WC.region ?_
        refine WL.runs 3 [(23, .pointer (some ⟨p, 5, none⟩)), (22, .pointer (some ⟨p, 0, none⟩)), (21, .pointer (some ⟨p, 0, none⟩))] (fun _ => by kernel_rfl) ?_
        refine WL.storeM (c' := #[.int .i64 T.n, .slice Ah15 hs17.length ch16, .int .i64 T.bn, .int .i64 T.bd, .slice Aw T.want.length cw, .int .i64 3, .int .i64 T.sn, .int .i64 T.sd, .slice Al T.log.length cl]) hC30 0 3 p 5 (.int .i64 3) (by kernel_rfl) rfl (by kernel_rfl) (fun w35 hF37 hC38 => ?_)
        have ho39 := own_fr ho31 hF37 (hC30.apartM 0 0 rfl rfl)
        have ho40 := own_fr ho32 hF37 (hC30.apartM 1 0 rfl rfl)
        have ho41 := own_fr ho33 hF37 (hC30.apartM 2 0 rfl rfl)
        refine WL.done rfl ?_
        refine QX.then_normal (hK4 _ _ ?_)
        refine WC.seq (fun K42 hK43 => ?_)
        refine WC.region ?_
        refine WL.runs 1 [(24, .pointer (some ⟨p, 0, none⟩))] (fun _ => by kernel_rfl) ?_
        refine WL.call rfl rfl rfl rfl rfl (by kernel_rfl) (Stage_ct p 3 (.int .i64 T.n) (.slice Ah15 hs17.length ch16) (.int .i64 T.bn) (.int .i64 T.bd) (.slice Aw T.want.length cw) (.int .i64 T.sn) (.int .i64 T.sd) (.slice Al T.log.length cl) w35 (hC38.get 0 rfl)) ?_
        rintro _ w45 ⟨rfl, hF44⟩
        refine ⟨_, rfl, ?_⟩
        have hC46 := hC38.call hF44
        have ho47 := own_fr ho39 hF44 (by simp)
        have ho48 := own_fr ho40 hF44 (by simp)
        have ho49 := own_fr ho41 hF44 (by simp)
        refine WL.runs 1 [(4, .int .i64 3)] (fun _ => by kernel_rfl) ?_
        refine WL.done rfl ?_
        refine QX.then_normal (hK43 _ _ ?_)
        refine WC.ret ?_
        refine (hret _ _ _ rfl ?_).1
        clear hN hret hret' hK43 hK6 hK4 hK2
        have hmo_ : T.n < 2 * ((T.hv.length : Int) + 1) := by have q_ := of_decide_eq_true t34b; rw [hse24, t27b] at q_; simp only [if_true, List.length_append, List.length_cons, List.length_nil] at q_; omega
        rw [t27b] at hse24
        simp only [if_true, Bool.false_eq_true, if_false] at hse24
        subst hse24
        obtain ⟨F2_, hrd_, hsub_⟩ := rd_close (T := (⟨T.n, T.hv ++ [node], T.bn, T.bd, T.want, 3, T.sn, T.sd, T.log⟩ : Rn)) hC46 0 0 1 2 rfl rfl rfl rfl ho47 ho48 ho49 (by decide) (by decide) (by decide)
        have hpt_ := acc_all (by first | assumption | (simpa using t14b)) t27b hmo_
        rw [hpt_]
        exact ⟨F2_, rfl, hC46.fr, hrd_, hsub_⟩
      · -- T.n < 2 * (hs17.length : Int): false
        have t34 : 2 * (hs17.length : Int) ≤ T.n := by have q_ := of_decide_eq_false t34b; omega
        refine WC.cond_false rfl ?_
        refine WC.skip ?_
        refine QX.then_normal (hK4 _ _ ?_)
        refine WC.seq (fun K50 hK51 => ?_)
        refine WC.region ?_
        refine WL.runs 1 [(24, .pointer (some ⟨p, 0, none⟩))] (fun _ => by kernel_rfl) ?_
        refine WL.call rfl rfl rfl rfl rfl (by kernel_rfl) (Stage_ct p T.stage (.int .i64 T.n) (.slice Ah15 hs17.length ch16) (.int .i64 T.bn) (.int .i64 T.bd) (.slice Aw T.want.length cw) (.int .i64 T.sn) (.int .i64 T.sd) (.slice Al T.log.length cl) w29 (hC30.get 0 rfl)) ?_
        rintro _ w53 ⟨rfl, hF52⟩
        refine ⟨_, rfl, ?_⟩
        have hC54 := hC30.call hF52
        have ho55 := own_fr ho31 hF52 (by simp)
        have ho56 := own_fr ho32 hF52 (by simp)
        have ho57 := own_fr ho33 hF52 (by simp)
        refine WL.runs 1 [(4, .int .i64 T.stage)] (fun _ => by kernel_rfl) ?_
        refine WL.done rfl ?_
        refine QX.then_normal (hK51 _ _ ?_)
        refine WC.ret ?_
        refine (hret _ _ _ rfl ?_).1
        clear hN hret hret' hK51 hK6 hK4 hK2
        have hmo_ : ¬ (T.n < 2 * ((T.hv.length : Int) + 1)) := by have q_ := of_decide_eq_false t34b; rw [hse24, t27b] at q_; simp only [if_true, List.length_append, List.length_cons, List.length_nil] at q_; omega
        rw [t27b] at hse24
        simp only [if_true, Bool.false_eq_true, if_false] at hse24
        subst hse24
        obtain ⟨F2_, hrd_, hsub_⟩ := rd_close (T := (⟨T.n, T.hv ++ [node], T.bn, T.bd, T.want, T.stage, T.sn, T.sd, T.log⟩ : Rn)) hC54 0 0 1 2 rfl rfl rfl rfl ho55 ho56 ho57 (by decide) (by decide) (by decide)
        have hpt_ := acc_few (by first | assumption | (simpa using t14b)) t27b hmo_
        rw [hpt_]
        exact ⟨F2_, rfl, hC54.fr, hrd_, hsub_⟩
    · -- (addB T.n T.hv node) = true: false
      refine WL.runs 5 [(20, .bool false), (19, undef), (18, undef), (17, undef), (16, undef)] (fun _ => by kernel_rfl) ?_
      refine WL.done rfl ?_
      refine QX.then_normal (hK6 _ _ ?_)
      refine WC.cond_false rfl ?_
      refine WC.skip ?_
      refine QX.then_normal (hK4 _ _ ?_)
      refine WC.seq (fun K58 hK59 => ?_)
      refine WC.region ?_
      refine WL.runs 1 [(24, .pointer (some ⟨p, 0, none⟩))] (fun _ => by kernel_rfl) ?_
      refine WL.call rfl rfl rfl rfl rfl (by kernel_rfl) (Stage_ct p T.stage (.int .i64 T.n) (.slice Ah15 hs17.length ch16) (.int .i64 T.bn) (.int .i64 T.bd) (.slice Aw T.want.length cw) (.int .i64 T.sn) (.int .i64 T.sd) (.slice Al T.log.length cl) w19 (hC20.get 0 rfl)) ?_
      rintro _ w61 ⟨rfl, hF60⟩
      refine ⟨_, rfl, ?_⟩
      have hC62 := hC20.call hF60
      have ho63 := own_fr ho22 hF60 (by simp)
      have ho64 := own_fr ho25 hF60 (by simp)
      have ho65 := own_fr ho26 hF60 (by simp)
      refine WL.runs 1 [(4, .int .i64 T.stage)] (fun _ => by kernel_rfl) ?_
      refine WL.done rfl ?_
      refine QX.then_normal (hK59 _ _ ?_)
      refine WC.ret ?_
      refine (hret _ _ _ rfl ?_).1
      clear hN hret hret' hK59 hK6 hK4 hK2
      rw [t27b] at hse24
      simp only [if_true, Bool.false_eq_true, if_false] at hse24
      subst hse24
      obtain ⟨F2_, hrd_, hsub_⟩ := rd_close (T := T) hC62 0 0 1 2 rfl rfl rfl rfl ho63 ho64 ho65 (by decide) (by decide) (by decide)
      have hpt_ : accT T node = T := acc_no (.inr t27b)
      rw [hpt_]
      exact ⟨F2_, rfl, hC62.fr, hrd_, hsub_⟩
  · -- T.stage = 2: false
    have t14 : ¬ (T.stage = 2) := by simpa using t14b
    refine WL.runs 12 [(20, .bool false), (19, undef), (18, undef), (17, undef), (16, undef), (15, .bool false), (14, .bool false), (13, undef), (12, undef), (11, undef), (10, undef), (9, undef)] (fun _ => by kernel_rfl) ?_
    refine WL.done rfl ?_
    refine QX.then_normal (hK6 _ _ ?_)
    refine WC.cond_false rfl ?_
    refine WC.skip ?_
    refine QX.then_normal (hK4 _ _ ?_)
    refine WC.seq (fun K66 hK67 => ?_)
    refine WC.region ?_
    refine WL.runs 1 [(24, .pointer (some ⟨p, 0, none⟩))] (fun _ => by kernel_rfl) ?_
    refine WL.call rfl rfl rfl rfl rfl (by kernel_rfl) (Stage_ct p T.stage (.int .i64 T.n) (.slice Ah T.hv.length ch) (.int .i64 T.bn) (.int .i64 T.bd) (.slice Aw T.want.length cw) (.int .i64 T.sn) (.int .i64 T.sd) (.slice Al T.log.length cl) w8 (hC9.get 0 rfl)) ?_
    rintro _ w69 ⟨rfl, hF68⟩
    refine ⟨_, rfl, ?_⟩
    have hC70 := hC9.call hF68
    have ho71 := own_fr ho10 hF68 (by simp)
    have ho72 := own_fr ho11 hF68 (by simp)
    have ho73 := own_fr ho12 hF68 (by simp)
    have hf74 := hf13.trans hF68 (by simp)
    refine WL.runs 1 [(4, .int .i64 T.stage)] (fun _ => by kernel_rfl) ?_
    refine WL.done rfl ?_
    refine QX.then_normal (hK67 _ _ ?_)
    refine WC.ret ?_
    refine (hret _ _ _ rfl ?_).1
    clear hN hret hret' hK67 hK6 hK4 hK2
    have hpt_ : accT T node = T := acc_no (.inl (by first | assumption | (simpa using t14b)))
    rw [hpt_]
    exact ⟨_, rfl, hf74.mono (fun _ h_ => nomatch h_), rdAt_fr ht0 hf74 (by simp), fun _ h_ => .inl h_⟩

theorem Accepted_nil (node : Int) (w : World) : Calls Try.prog 13 #[.pointer none, .int .i64 node] w fun e w' => e = .returned (.int .i64 0) ∧ Fr w w' [] := by
  refine enterD (n := 26) Try.func13 rfl rfl (Nat.le_of_ble_eq_true rfl) ?_
  intro Q0 hN hret hret'
  have hC := Cx.start w
  refine WC.seq (fun K1 hK2 => ?_)
  refine WC.region ?_
  refine WL.runs 1 [(4, .int .i64 0)] (fun _ => by kernel_rfl) ?_
  refine WL.done rfl ?_
  refine QX.then_normal (hK2 _ _ ?_)
  refine WC.seq (fun K3 hK4 => ?_)
  refine WC.seq (fun K5 hK6 => ?_)
  refine WC.region ?_
  refine WL.runs 1 [(5, .pointer none)] (fun _ => by kernel_rfl) ?_
  refine WL.call rfl rfl rfl rfl rfl (by kernel_rfl) (Stage_nil w) ?_
  rintro _ w8 ⟨rfl, hF7⟩
  refine ⟨_, rfl, ?_⟩
  have hC9 := hC.call hF7
  refine WL.runs 14 [(20, .bool false), (19, undef), (18, undef), (17, undef), (16, undef), (15, .bool false), (14, .bool false), (13, undef), (12, undef), (11, undef), (10, undef), (9, undef), (8, .bool false), (7, .bool false)] (fun _ => by kernel_rfl) ?_
  refine WL.done rfl ?_
  refine QX.then_normal (hK6 _ _ ?_)
  refine WC.cond_false rfl ?_
  refine WC.skip ?_
  refine QX.then_normal (hK4 _ _ ?_)
  refine WC.seq (fun K10 hK11 => ?_)
  refine WC.region ?_
  refine WL.runs 1 [(24, .pointer none)] (fun _ => by kernel_rfl) ?_
  refine WL.call rfl rfl rfl rfl rfl (by kernel_rfl) (Stage_nil w8) ?_
  rintro _ w13 ⟨rfl, hF12⟩
  refine ⟨_, rfl, ?_⟩
  have hC14 := hC9.call hF12
  refine WL.runs 1 [(4, .int .i64 0)] (fun _ => by kernel_rfl) ?_
  refine WL.done rfl ?_
  refine QX.then_normal (hK11 _ _ ?_)
  refine WC.ret ?_
  refine (hret _ _ _ rfl ?_).1
  clear hN hret hret' hK11 hK6 hK4 hK2
  exact ⟨rfl, hC14.fr⟩

theorem Promise_nil (node an ad : Int) (w : World) : Calls Try.prog 9 #[.pointer none, .int .i64 node, .agg #[.int .i64 an, .int .i64 ad], .slice none 0 0] w fun e w' => e = .returned (.int .i64 0) ∧ Fr w w' [] := by
  refine enterD (n := 100) Try.func9 rfl rfl (Nat.le_of_ble_eq_true rfl) ?_
  intro Q0 hN hret hret'
  have hC := Cx.start w
  refine WC.seq (fun K1 hK2 => ?_)
  refine WC.region ?_
  refine WL.newM hC (fun b => .pointer (some ⟨b, 0, none⟩)) (.cells #[.int .i64 an, .int .i64 ad] 31) 6 (fun _ => by kernel_rfl) (fun g3 w4 hb7 hF5 hC6 => ?_)
  refine WL.runs 1 [(8, .int .i64 0)] (fun _ => by kernel_rfl) ?_
  refine WL.done rfl ?_
  refine QX.then_normal (hK2 _ _ ?_)
  refine WC.seq (fun K8 hK9 => ?_)
  refine WC.seq (fun K10 hK11 => ?_)
  refine WC.region ?_
  refine WL.runs 1 [(11, .pointer none)] (fun _ => by kernel_rfl) ?_
  refine WL.call rfl rfl rfl rfl rfl (by kernel_rfl) (Stage_nil w4) ?_
  rintro _ w13 ⟨rfl, hF12⟩
  refine ⟨_, rfl, ?_⟩
  have hC14 := hC6.call hF12
  refine WL.runs 14 [(26, .bool true), (25, undef), (24, undef), (23, undef), (22, undef), (21, undef), (20, undef), (19, .bool true), (18, .bool true), (17, undef), (16, undef), (15, undef), (14, .bool true), (13, .bool true)] (fun _ => by kernel_rfl) ?_
  refine WL.done rfl ?_
  refine QX.then_normal (hK11 _ _ ?_)
  refine WC.cond_true rfl ?_
  refine WC.seq (fun K15 hK16 => ?_)
  refine WC.region ?_
  refine WL.runs 1 [(27, .pointer none)] (fun _ => by kernel_rfl) ?_
  refine WL.call rfl rfl rfl rfl rfl (by kernel_rfl) (Stage_nil w13) ?_
  rintro _ w18 ⟨rfl, hF17⟩
  refine ⟨_, rfl, ?_⟩
  have hC19 := hC14.call hF17
  refine WL.runs 1 [(8, .int .i64 0)] (fun _ => by kernel_rfl) ?_
  refine WL.done rfl ?_
  refine QX.then_normal (hK16 _ _ ?_)
  refine WC.ret ?_
  refine QX.then_ret ?_
  refine (hret _ _ _ rfl ?_).1
  clear hN hret hret' hK16 hK11 hK9 hK2
  exact ⟨rfl, hC19.fr⟩

theorem Ballot_nil  (w : World) : Calls Try.prog 16 #[.pointer none] w fun e w' => e = .returned (.agg #[.int .i64 0, .int .i64 0]) ∧ Fr w w' [] := by
  refine enterD (n := 10) Try.func16 rfl rfl (Nat.le_of_ble_eq_true rfl) ?_
  intro Q0 hN hret hret'
  have hC := Cx.start w
  refine WC.seq (fun K1 hK2 => ?_)
  refine WC.region ?_
  refine WL.newM hC (fun b => .pointer (some ⟨b, 0, none⟩)) (.cells #[.int .i64 0, .int .i64 0] 31) 2 (fun _ => by kernel_rfl) (fun g3 w4 hb7 hF5 hC6 => ?_)
  refine WL.done rfl ?_
  refine QX.then_normal (hK2 _ _ ?_)
  refine WC.seq (fun K8 hK9 => ?_)
  refine WC.seq (fun K10 hK11 => ?_)
  refine WC.region ?_
  refine WL.runs 2 [(4, .bool true), (3, .pointer none)] (fun _ => by kernel_rfl) ?_
  refine WL.done rfl ?_
  refine QX.then_normal (hK11 _ _ ?_)
  refine WC.cond_true rfl ?_
  refine WC.seq (fun K12 hK13 => ?_)
  refine WC.region ?_
  refine WL.runs 1 [(5, .agg #[.int .i64 0, .int .i64 0])] (fun _ => by kernel_rfl) ?_
  refine WL.storeM (c' := #[.int .i64 0, .int .i64 0]) hC6 0 31 g3 0 (.agg #[.int .i64 0, .int .i64 0]) (by kernel_rfl) rfl (by kernel_rfl) (fun w14 hF16 hC17 => ?_)
  refine WL.done rfl ?_
  refine QX.then_normal (hK13 _ _ ?_)
  refine WC.ret ?_
  refine QX.then_ret ?_
  refine (hret' _ _ (.agg #[.int .i64 0, .int .i64 0]) (fun a ha => ?_) ?_).1
  · exact res_run ha ((ResR.cell rfl (run_ld (hC17.get 0 rfl) rfl) ResR.nil)) rfl
  clear hN hret hret' hK13 hK11 hK9 hK2
  exact ⟨rfl, hC17.fr⟩

theorem Log_ct (F : List Nat) (p : Nat) (T : Rn) (w : World) (ht : rdAt w F p T) (hll_ : T.log.length ≤ 70000) : Calls Try.prog 11 #[.pointer (some ⟨p, 0, none⟩)] w fun e w' => ∃ v, e = .returned v ∧ Fr w w' [] ∧ w'.ownsRow w.heap.size 44 12 v (logOf T).length ((logOf T).flatMap cellsC) := by
  refine enterD (n := 13) Try.func11 rfl rfl (Nat.le_of_ble_eq_true rfl) ?_
  intro Q0 hN hret hret'
  have ht0 := ht
  obtain ⟨Ah, ch, Aw, cw, Al, cl, hp_, hoh_, how_, hol_, rfl, hnn_, hdd_⟩ := ht
  have hC := Cx.open3 hp_ (own_lt hoh_) (own_lt how_) (own_lt hol_) hnn_ hdd_
  refine WC.seq (fun K1 hK2 => ?_)
  refine WC.region ?_
  refine WL.runs 1 [(2, .slice none 0 0)] (fun _ => by kernel_rfl) ?_
  refine WL.done rfl ?_
  refine QX.then_normal (hK2 _ _ ?_)
  refine WC.seq (fun K3 hK4 => ?_)
  refine WC.seq (fun K5 hK6 => ?_)
  refine WC.region ?_
  refine WL.runs 1 [(3, .pointer (some ⟨p, 0, none⟩))] (fun _ => by kernel_rfl) ?_
  refine WL.call rfl rfl rfl rfl rfl (by kernel_rfl) (Stage_ct p T.stage (.int .i64 T.n) (.slice Ah T.hv.length ch) (.int .i64 T.bn) (.int .i64 T.bd) (.slice Aw T.want.length cw) (.int .i64 T.sn) (.int .i64 T.sd) (.slice Al T.log.length cl) w (hC.get 0 rfl)) ?_
  rintro _ w8 ⟨rfl, hF7⟩
  refine ⟨_, rfl, ?_⟩
  have hC9 := hC.call hF7
  have ho10 := own_fr hoh_ hF7 (by simp)
  have ho11 := own_fr how_ hF7 (by simp)
  have ho12 := own_fr hol_ hF7 (by simp)
  have hf13 := (Fr.refl w []).trans hF7 (by simp)
  refine WL.done rfl ?_
  refine QX.then_normal (hK6 _ _ ?_)
  refine WC.block ?_
  refine WC.seq (fun K14 hK15 => ?_)
  refine WC.seq (fun K16 hK17 => ?_)
  refine WC.region ?_
  refine WL.runs 2 [(5, .bool (T.stage == 2)), (6, .bool (T.stage == 2))] (fun _ => by kernel_rfl) ?_
  refine WL.done rfl ?_
  refine QX.then_normal (hK17 _ _ ?_)
  refine WC.test_at 5 (T.stage == 2) rfl (fun t18b => ?_) (fun t18b => ?_)
  · -- T.stage = 2: true
    have t18 : T.stage = 2 := by simpa using t18b
    refine WC.cond_true rfl ?_
    refine WC.skip ?_
    refine QX.then_normal (hK15 _ _ ?_)
    refine WC.cond_true rfl ?_
    refine WC.seq (fun K19 hK20 => ?_)
    refine WC.region ?_
    refine WL.runs 3 [(10, .pointer (some ⟨p, 8, none⟩)), (9, .pointer (some ⟨p, 0, none⟩)), (8, .pointer (some ⟨p, 0, none⟩))] (fun _ => by kernel_rfl) ?_
    refine WL.load 35 (.pointer (some ⟨p, 8, none⟩)) (.slice Al T.log.length cl) 11 (by kernel_rfl) (run_ld (hC9.get 0 rfl) rfl) ?_
    refine WL.call rfl rfl rfl rfl rfl (by kernel_rfl) (copied_n Al T.log.length cl T.log w8 (own_rd ho12 cellsC_len (by decide)) (own_count cellsC_len (by decide) ho12) (by omega)) ?_
    rintro _ w23 ⟨v_, rfl, hF22, ho21⟩
    have hC24 := hC9.callN hF22 (own_ge ho21) (own_lt ho21)
    obtain ⟨A25, c26, rfl, hle27⟩ := own_form ho21
    have ho29 := own_base (b' := 0) ho21 (fun _ _ => Nat.zero_le _)
    refine ⟨_, rfl, ?_⟩
    have ho30 := own_fr ho10 hF22 (by simp)
    have ho31 := own_fr ho11 hF22 (by simp)
    have ho32 := own_fr ho12 hF22 (by simp)
    have hf33 := hf13.trans hF22 (by simp)
    refine WL.runs 1 [(2, .slice A25 T.log.length c26)] (fun _ => by kernel_rfl) ?_
    refine WL.done rfl ?_
    refine QX.then_normal (hK20 _ _ ?_)
    refine WC.ret ?_
    refine QX.block_ret ?_
    refine QX.then_ret ?_
    refine (hret _ _ _ rfl ?_).1
    clear hN hret hret' hK20 hK17 hK15 hK6 hK4 hK2
    rw [logOf_yes (by first | (left; assumption) | (right; assumption))]
    exact ⟨_, rfl, hf33, own_base ho29 (fun x_ hx_ => Nat.le_trans hf13.size (own_ge ho21 x_ hx_))⟩
  · -- T.stage = 2: false
    have t18 : ¬ (T.stage = 2) := by simpa using t18b
    refine WC.cond_false rfl ?_
    refine WC.region ?_
    refine WL.runs 2 [(5, .bool (T.stage == 3)), (7, .bool (T.stage == 3))] (fun _ => by kernel_rfl) ?_
    refine WL.done rfl ?_
    refine QX.then_normal (hK15 _ _ ?_)
    refine WC.test_at 5 (T.stage == 3) rfl (fun t35b => ?_) (fun t35b => ?_)
    · -- T.stage = 3: true
      have t35 : T.stage = 3 := by simpa using t35b
      refine WC.cond_true rfl ?_
      refine WC.seq (fun K36 hK37 => ?_)
      refine WC.region ?_
      refine WL.runs 3 [(10, .pointer (some ⟨p, 8, none⟩)), (9, .pointer (some ⟨p, 0, none⟩)), (8, .pointer (some ⟨p, 0, none⟩))] (fun _ => by kernel_rfl) ?_
      refine WL.load 35 (.pointer (some ⟨p, 8, none⟩)) (.slice Al T.log.length cl) 11 (by kernel_rfl) (run_ld (hC9.get 0 rfl) rfl) ?_
      refine WL.call rfl rfl rfl rfl rfl (by kernel_rfl) (copied_n Al T.log.length cl T.log w8 (own_rd ho12 cellsC_len (by decide)) (own_count cellsC_len (by decide) ho12) (by omega)) ?_
      rintro _ w40 ⟨v_, rfl, hF39, ho38⟩
      have hC41 := hC9.callN hF39 (own_ge ho38) (own_lt ho38)
      obtain ⟨A42, c43, rfl, hle44⟩ := own_form ho38
      have ho46 := own_base (b' := 0) ho38 (fun _ _ => Nat.zero_le _)
      refine ⟨_, rfl, ?_⟩
      have ho47 := own_fr ho10 hF39 (by simp)
      have ho48 := own_fr ho11 hF39 (by simp)
      have ho49 := own_fr ho12 hF39 (by simp)
      have hf50 := hf13.trans hF39 (by simp)
      refine WL.runs 1 [(2, .slice A42 T.log.length c43)] (fun _ => by kernel_rfl) ?_
      refine WL.done rfl ?_
      refine QX.then_normal (hK37 _ _ ?_)
      refine WC.ret ?_
      refine QX.block_ret ?_
      refine QX.then_ret ?_
      refine (hret _ _ _ rfl ?_).1
      clear hN hret hret' hK37 hK17 hK15 hK6 hK4 hK2
      rw [logOf_yes (by first | (left; assumption) | (right; assumption))]
      exact ⟨_, rfl, hf50, own_base ho46 (fun x_ hx_ => Nat.le_trans hf13.size (own_ge ho38 x_ hx_))⟩
    · -- T.stage = 3: false
      have t35 : ¬ (T.stage = 3) := by simpa using t35b
      refine WC.cond_false rfl ?_
      refine WC.skip ?_
      refine QX.block_normal ?_
      refine QX.then_normal (hK4 _ _ ?_)
      refine WC.seq (fun K52 hK53 => ?_)
      refine WC.region ?_
      refine WL.runs 1 [(2, .slice none 0 0)] (fun _ => by kernel_rfl) ?_
      refine WL.done rfl ?_
      refine QX.then_normal (hK53 _ _ ?_)
      refine WC.ret ?_
      refine (hret _ _ _ rfl ?_).1
      clear hN hret hret' hK53 hK17 hK15 hK6 hK4 hK2
      rw [logOf_no (by first | assumption | simpa using trivial) (by assumption)]
      exact ⟨_, rfl, hf13, own_nil _ _ _ _⟩

theorem Log_nil  (w : World) : Calls Try.prog 11 #[.pointer none] w fun e w' => e = .returned (.slice none 0 0) ∧ Fr w w' [] := by
  refine enterD (n := 13) Try.func11 rfl rfl (Nat.le_of_ble_eq_true rfl) ?_
  intro Q0 hN hret hret'
  have hC := Cx.start w
  refine WC.seq (fun K1 hK2 => ?_)
  refine WC.region ?_
  refine WL.runs 1 [(2, .slice none 0 0)] (fun _ => by kernel_rfl) ?_
  refine WL.done rfl ?_
  refine QX.then_normal (hK2 _ _ ?_)
  refine WC.seq (fun K3 hK4 => ?_)
  refine WC.seq (fun K5 hK6 => ?_)
  refine WC.region ?_
  refine WL.runs 1 [(3, .pointer none)] (fun _ => by kernel_rfl) ?_
  refine WL.call rfl rfl rfl rfl rfl (by kernel_rfl) (Stage_nil w) ?_
  rintro _ w8 ⟨rfl, hF7⟩
  refine ⟨_, rfl, ?_⟩
  have hC9 := hC.call hF7
  refine WL.done rfl ?_
  refine QX.then_normal (hK6 _ _ ?_)
  refine WC.block ?_
  refine WC.seq (fun K10 hK11 => ?_)
  refine WC.seq (fun K12 hK13 => ?_)
  refine WC.region ?_
  refine WL.runs 2 [(5, .bool false), (6, .bool false)] (fun _ => by kernel_rfl) ?_
  refine WL.done rfl ?_
  refine QX.then_normal (hK13 _ _ ?_)
  refine WC.cond_false rfl ?_
  refine WC.region ?_
  refine WL.runs 2 [(5, .bool false), (7, .bool false)] (fun _ => by kernel_rfl) ?_
  refine WL.done rfl ?_
  refine QX.then_normal (hK11 _ _ ?_)
  refine WC.cond_false rfl ?_
  refine WC.skip ?_
  refine QX.block_normal ?_
  refine QX.then_normal (hK4 _ _ ?_)
  refine WC.seq (fun K14 hK15 => ?_)
  refine WC.region ?_
  refine WL.runs 1 [(2, .slice none 0 0)] (fun _ => by kernel_rfl) ?_
  refine WL.done rfl ?_
  refine QX.then_normal (hK15 _ _ ?_)
  refine WC.ret ?_
  refine (hret _ _ _ rfl ?_).1
  clear hN hret hret' hK15 hK13 hK11 hK6 hK4 hK2
  exact ⟨rfl, hC9.fr⟩

theorem Place_ct (F : List Nat) (p : Nat) (T : Rn) (w : World) (ht : rdAt w F p T) (hll_ : T.log.length ≤ 70000) (hll2_ : (logOf T).length ≤ 70000) : Calls Try.prog 10 #[.pointer (some ⟨p, 0, none⟩)] w fun e w' => e = .returned (.int .i64 (placeOf T)) ∧ Fr w w' [] := by
  refine enterD (n := 25) Try.func10 rfl rfl (Nat.le_of_ble_eq_true rfl) ?_
  intro Q0 hN hret hret'
  have ht0 := ht
  obtain ⟨Ah, ch, Aw, cw, Al, cl, hp_, hoh_, how_, hol_, rfl, hnn_, hdd_⟩ := ht
  have hC := Cx.open3 hp_ (own_lt hoh_) (own_lt how_) (own_lt hol_) hnn_ hdd_
  refine WC.seq (fun K1 hK2 => ?_)
  refine WC.region ?_
  refine WL.runs 1 [(2, .int .i64 0)] (fun _ => by kernel_rfl) ?_
  refine WL.done rfl ?_
  refine QX.then_normal (hK2 _ _ ?_)
  refine WC.seq (fun K3 hK4 => ?_)
  refine WC.region ?_
  refine WL.runs 1 [(4, .pointer (some ⟨p, 0, none⟩))] (fun _ => by kernel_rfl) ?_
  refine WL.call rfl rfl rfl rfl rfl (by kernel_rfl) (Log_ct _ p T w (rdAt_fr ht0 (Fr.refl w []) (by simp)) hll_) ?_
  rintro _ w7 ⟨v_, rfl, hF6, ho5⟩
  have hC8 := hC.callN hF6 (own_ge ho5) (own_lt ho5)
  obtain ⟨A9, c10, rfl, hle11⟩ := own_form ho5
  have ho13 := own_base (b' := 0) ho5 (fun _ _ => Nat.zero_le _)
  refine ⟨_, rfl, ?_⟩
  have ho14 := own_fr hoh_ hF6 (by simp)
  have ho15 := own_fr how_ hF6 (by simp)
  have ho16 := own_fr hol_ hF6 (by simp)
  have hf17 := (Fr.refl w []).trans hF6 (by simp)
  refine WL.runs 1 [(3, .slice A9 ((logOf T).length) c10)] (fun _ => by kernel_rfl) ?_
  refine WL.done rfl ?_
  refine QX.then_normal (hK4 _ _ ?_)
  refine WC.seq (fun K19 hK20 => ?_)
  refine WC.seq (fun K21 hK22 => ?_)
  refine WC.region ?_
  refine WL.runs 4 [(9, .bool (((logOf T).length : Int) == 0)), (8, .bool (((logOf T).length : Int) == 0)), (7, .int .i64 ((logOf T).length : Int)), (6, .slice A9 ((logOf T).length) c10)] (fun _ => by kernel_rfl) ?_
  refine WL.test_at 9 (((logOf T).length : Int) == 0) rfl (fun t23b => ?_) (fun t23b => ?_)
  · -- ((logOf T).length : Int) = 0: true
    have t23 : ((logOf T).length : Int) = 0 := by simpa using t23b
    refine WL.runs 7 [(16, .bool true), (15, undef), (14, undef), (13, undef), (12, undef), (11, undef), (10, undef)] (fun _ => by kernel_rfl) ?_
    refine WL.done rfl ?_
    refine QX.then_normal (hK22 _ _ ?_)
    refine WC.cond_true rfl ?_
    refine WC.seq (fun K24 hK25 => ?_)
    refine WC.region ?_
    refine WL.runs 1 [(2, .int .i64 0)] (fun _ => by kernel_rfl) ?_
    refine WL.done rfl ?_
    refine QX.then_normal (hK25 _ _ ?_)
    refine WC.ret ?_
    refine QX.then_ret ?_
    refine (hret _ _ _ rfl ?_).1
    clear hN hret hret' hK25 hK22 hK20 hK4 hK2
    exact ⟨by show Ending.returned (.int .i64 0) = _; rw [placeOf_nil (by first | (left; omega) | (right; omega))], hf17⟩
  · -- ((logOf T).length : Int) = 0: false
    have t23 : ¬ (((logOf T).length : Int) = 0) := by simpa using t23b
    refine WL.runs 3 [(12, .pointer (some ⟨p, 4, none⟩)), (11, .pointer (some ⟨p, 0, none⟩)), (10, .pointer (some ⟨p, 0, none⟩))] (fun _ => by kernel_rfl) ?_
    refine WL.load 35 (.pointer (some ⟨p, 4, none⟩)) (.slice Aw T.want.length cw) 13 (by kernel_rfl) (run_ld (hC8.get 0 rfl) rfl) ?_
    refine WL.runs 3 [(16, .bool ((T.want.length : Int) == 0)), (15, .bool ((T.want.length : Int) == 0)), (14, .int .i64 (T.want.length : Int))] (fun _ => by kernel_rfl) ?_
    refine WL.done rfl ?_
    refine QX.then_normal (hK22 _ _ ?_)
    refine WC.test_at 16 ((T.want.length : Int) == 0) rfl (fun t26b => ?_) (fun t26b => ?_)
    · -- (T.want.length : Int) = 0: true
      have t26 : (T.want.length : Int) = 0 := by simpa using t26b
      refine WC.cond_true rfl ?_
      refine WC.seq (fun K27 hK28 => ?_)
      refine WC.region ?_
      refine WL.runs 1 [(2, .int .i64 0)] (fun _ => by kernel_rfl) ?_
      refine WL.done rfl ?_
      refine QX.then_normal (hK28 _ _ ?_)
      refine WC.ret ?_
      refine QX.then_ret ?_
      refine (hret _ _ _ rfl ?_).1
      clear hN hret hret' hK28 hK22 hK20 hK4 hK2
      exact ⟨by show Ending.returned (.int .i64 0) = _; rw [placeOf_nil (by first | (left; omega) | (right; omega))], hf17⟩
    · -- (T.want.length : Int) = 0: false
      have t26 : ¬ ((T.want.length : Int) = 0) := by simpa using t26b
      refine WC.cond_false rfl ?_
      refine WC.skip ?_
      refine QX.then_normal (hK20 _ _ ?_)
      refine WC.seq (fun K29 hK30 => ?_)
      refine WC.region ?_
      refine WL.runs 4 [(20, .pointer (some ⟨p, 4, none⟩)), (19, .pointer (some ⟨p, 0, none⟩)), (18, .pointer (some ⟨p, 0, none⟩)), (17, .slice A9 ((logOf T).length) c10)] (fun _ => by kernel_rfl) ?_
      refine WL.load 35 (.pointer (some ⟨p, 4, none⟩)) (.slice Aw T.want.length cw) 21 (by kernel_rfl) (run_ld (hC8.get 0 rfl) rfl) ?_
      have hn35 := own_count cellsC_len (by decide) ho15
      obtain ⟨e31, he32⟩ := get_some (xs := T.want) (i := 0) (by omega)
      obtain ⟨b33, hA34⟩ := own_addr (by decide) cellsC_len ho15 he32
      refine WL.index Aw T.want.length cw 22 .i64 0 b33 0 0 12 (by kernel_rfl) hA34 (by omega) (by omega) 0 (by first | (simp; done) | omega) ?_
      refine WL.load 44 (.pointer (some ⟨b33, 0, none⟩)) (.agg #[.int .i64 e31.node, .int .i64 e31.boot, .int .i64 e31.seq, .int .i64 e31.time, .int .i64 e31.kind, .int .u32 0, .int .i64 0, .int .i64 0, .slice none 0 0, .int .u32 e31.dip, .int .u32 e31.vip, .bool e31.up]) 23 (by kernel_rfl) (run_rdN (l := [.int .i64 e31.node, .int .i64 e31.boot, .int .i64 e31.seq, .int .i64 e31.time, .int .i64 e31.kind, .int .u32 0, .int .i64 0, .int .i64 0, .slice none 0 0, .int .u32 e31.dip, .int .u32 e31.vip, .bool e31.up]) rfl rfl (fun j u hu => by have hq_ := Rd.cell (own_rd ho15 cellsC_len (by decide)) hA34 he32 j u hu; simpa [Nat.add_assoc] using hq_)) ?_
      refine WL.call rfl rfl rfl rfl rfl (by kernel_rfl) (place_n e31 A9 ((logOf T).length) c10 (logOf T) w7 (own_rd ho13 cellsC_len (by decide)) (own_count cellsC_len (by decide) ho13) (by first | (simp; done) | omega)) ?_
      rintro _ w37 ⟨rfl, hF36⟩
      refine ⟨_, rfl, ?_⟩
      have hC38 := hC8.call hF36
      have ho39 := own_fr ho14 hF36 (by simp)
      have ho40 := own_fr ho15 hF36 (by simp)
      have ho41 := own_fr ho16 hF36 (by simp)
      have hf42 := hf17.trans hF36 (by simp)
      have ho43 := own_fr ho13 hF36 (by simp)
      refine WL.runs 1 [(2, .int .i64 (placeN (logOf T) e31))] (fun _ => by kernel_rfl) ?_
      refine WL.done rfl ?_
      refine QX.then_normal (hK30 _ _ ?_)
      refine WC.ret ?_
      refine (hret _ _ _ rfl ?_).1
      clear hN hret hret' hK30 hK22 hK20 hK4 hK2
      exact ⟨by show Ending.returned (.int .i64 (placeN _ _)) = _; rw [placeOf_some (by omega) he32], hf42⟩

theorem Place_nil  (w : World) : Calls Try.prog 10 #[.pointer none] w fun e w' => e = .returned (.int .i64 0) ∧ Fr w w' [] := by
  refine enterD (n := 25) Try.func10 rfl rfl (Nat.le_of_ble_eq_true rfl) ?_
  intro Q0 hN hret hret'
  have hC := Cx.start w
  refine WC.seq (fun K1 hK2 => ?_)
  refine WC.region ?_
  refine WL.runs 1 [(2, .int .i64 0)] (fun _ => by kernel_rfl) ?_
  refine WL.done rfl ?_
  refine QX.then_normal (hK2 _ _ ?_)
  refine WC.seq (fun K3 hK4 => ?_)
  refine WC.region ?_
  refine WL.runs 1 [(4, .pointer none)] (fun _ => by kernel_rfl) ?_
  refine WL.call rfl rfl rfl rfl rfl (by kernel_rfl) (Log_nil w) ?_
  rintro _ w6 ⟨rfl, hF5⟩
  refine ⟨_, rfl, ?_⟩
  have hC7 := hC.call hF5
  refine WL.runs 1 [(3, .slice none 0 0)] (fun _ => by kernel_rfl) ?_
  refine WL.done rfl ?_
  refine QX.then_normal (hK4 _ _ ?_)
  refine WC.seq (fun K8 hK9 => ?_)
  refine WC.seq (fun K10 hK11 => ?_)
  refine WC.region ?_
  refine WL.runs 11 [(16, .bool true), (15, undef), (14, undef), (13, undef), (12, undef), (11, undef), (10, undef), (9, .bool true), (8, .bool true), (7, .int .i64 0), (6, .slice none 0 0)] (fun _ => by kernel_rfl) ?_
  refine WL.done rfl ?_
  refine QX.then_normal (hK11 _ _ ?_)
  refine WC.cond_true rfl ?_
  refine WC.seq (fun K12 hK13 => ?_)
  refine WC.region ?_
  refine WL.runs 1 [(2, .int .i64 0)] (fun _ => by kernel_rfl) ?_
  refine WL.done rfl ?_
  refine QX.then_normal (hK13 _ _ ?_)
  refine WC.ret ?_
  refine QX.then_ret ?_
  refine (hret _ _ _ rfl ?_).1
  clear hN hret hret' hK13 hK11 hK9 hK4 hK2
  exact ⟨rfl, hC7.fr⟩

theorem missing_ct (p n : Nat) (Ah : Option Addr) (ch : Nat) (x2 x3 x4 x5 x6 x7 x8 : Value) (w : World) (hp_ : w.heap[p]? = some (.cells #[.int .i64 (n : Int), .slice Ah 0 ch, x2, x3, x4, x5, x6, x7, x8] 77 (0, 0))) (hn : n ≤ 8) : Calls Try.prog 28 #[.pointer (some ⟨p, 0, none⟩)] w fun e w' => ∃ v, e = .returned v ∧ Fr w w' [] ∧ w'.ownsRow w.heap.size 3 1 v n ((missL n).flatMap (Go.Tw.encI .i64)) := by
  refine enterD (n := 27) Try.func28 rfl rfl (Nat.le_of_ble_eq_true rfl) ?_
  intro Q0 hN hret hret'
  have hC := Cx.startMs w [(p, .cells #[.int .i64 (n : Int), .slice Ah 0 ch, x2, x3, x4, x5, x6, x7, x8] 77)] (by simp) (by simp [hp_])
  refine WC.seq (fun K1 hK2 => ?_)
  refine WC.region ?_
  refine WL.runs 1 [(2, .slice none 0 0)] (fun _ => by kernel_rfl) ?_
  refine WL.done rfl ?_
  refine QX.then_normal (hK2 _ _ ?_)
  refine WC.seq (fun K3 hK4 => ?_)
  refine WC.region ?_
  refine WL.runs 1 [(3, .slice none 0 0)] (fun _ => by kernel_rfl) ?_
  refine WL.done rfl ?_
  refine QX.then_normal (hK4 _ _ ?_)
  refine WC.seq (fun K5 hK6 => ?_)
  refine WC.seq (fun K7 hK8 => ?_)
  refine WC.region ?_
  refine WL.runs 3 [(7, .pointer (some ⟨p, 0, none⟩)), (6, .pointer (some ⟨p, 0, none⟩)), (5, .pointer (some ⟨p, 0, none⟩))] (fun _ => by kernel_rfl) ?_
  refine WL.load 3 (.pointer (some ⟨p, 0, none⟩)) (.int .i64 (n : Int)) 8 (by kernel_rfl) (run_ld (hC.get 0 rfl) rfl) ?_
  refine WL.runs 1 [(9, .int .i64 0)] (fun _ => by kernel_rfl) ?_
  refine WL.done rfl ?_
  refine QX.then_normal (hK8 _ _ ?_)
  refine WC.block ?_
  have hC9 := hC.addNil
  refine WC.loop (fun m_ E_ w_ => ∃ (i : Nat) (A5 : Option Addr) (n5 c5 : Nat), m_ = n - i ∧ E_ = [(0, .pointer (some ⟨p, 0, none⟩)), (2, .slice none 0 0), (3, .slice A5 n5 c5), (8, .int .i64 (n : Int)), (9, .int .i64 (i : Int))] ∧ Cx w [p] w_ [(p, .cells #[.int .i64 (n : Int), .slice Ah 0 ch, x2, x3, x4, x5, x6, x7, x8] 77)] [blk (.slice A5 n5 c5)] ∧ World.ownsRow w_ 0 3 1 (.slice A5 n5 c5) n5 ((missL i).flatMap (Go.Tw.encI .i64)) ∧ (i ≤ n)) ⟨_, _, ⟨0, none, 0, 0, rfl, rfl, hC9, own_nil _ _ _ _, Nat.zero_le _⟩, sub_of ⟨rfl, rfl, rfl, rfl, rfl, trivial⟩⟩ (fun m13 E_ w14 K10 hK11 hI12 => ?_)
  obtain ⟨i, A5, n5, c5, rfl, rfl, hC15, hrow, hi⟩ := hI12
  have hcn_ := own_count (Go.Tw.encI_len _) (by decide) hrow
  rw [missL_len] at hcn_
  refine WC.seq (fun K16 hK17 => ?_)
  refine WC.region ?_
  refine WL.runs 1 [(10, .bool (decide ((i : Int) < (n : Int))))] (fun _ => by kernel_rfl) ?_
  refine WL.done rfl ?_
  refine QX.then_normal (hK17 _ _ ?_)
  refine WC.seq (fun K18 hK19 => ?_)
  refine WC.test_at 10 (decide ((i : Int) < (n : Int))) rfl (fun t20b => ?_) (fun t20b => ?_)
  · -- (i : Int) < (n : Int): true
    have t20 : (i : Int) < (n : Int) := by have q_ := of_decide_eq_true t20b; omega
    refine WC.cond_true rfl ?_
    refine WC.skip ?_
    refine QX.then_normal (hK19 _ _ ?_)
    refine WC.seq (fun K21 hK22 => ?_)
    refine WC.block ?_
    refine WC.seq (fun K23 hK24 => ?_)
    refine WC.region ?_
    refine WL.runs 2 [(4, .int .i64 (i : Int)), (11, .int .i64 (i : Int))] (fun _ => by kernel_rfl) ?_
    refine WL.done rfl ?_
    refine QX.then_normal (hK24 _ _ ?_)
    refine WC.seq (fun K25 hK26 => ?_)
    refine WC.region ?_
    refine WL.runs 3 [(14, .pointer (some ⟨p, 1, none⟩)), (13, .pointer (some ⟨p, 0, none⟩)), (12, .pointer (some ⟨p, 0, none⟩))] (fun _ => by kernel_rfl) ?_
    refine WL.load 22 (.pointer (some ⟨p, 1, none⟩)) (.slice Ah 0 ch) 15 (by kernel_rfl) (run_ld (hC15.get 0 rfl) rfl) ?_
    refine WL.runs 2 [(17, .int .i64 (IntKind.i64.wrap (16 + (i : Int)))), (16, .int .i64 (i : Int))] (fun _ => by kernel_rfl) ?_
    refine WL.recast (show (.int .i64 (IntKind.i64.wrap (16 + (i : Int))) : Value) = .int .i64 (16 + (i : Int)) from by rw [wrap_in_i64 (16 + (i : Int)) (by omega) (by omega)]) ?_
    refine WL.call rfl rfl rfl rfl rfl (by kernel_rfl) (Contains_n Ah 0 ch [] (16 + (i : Int)) w14 (Rd.nil _ _ _ _) rfl (by simp)) ?_
    rintro _ w28 ⟨rfl, hF27⟩
    refine ⟨_, rfl, ?_⟩
    have hC29 := hC15.call hF27
    have ho30 := own_fr hrow hF27 (by simp)
    refine WL.runs 1 [(19, .bool true)] (fun _ => by kernel_rfl) ?_
    refine WL.done rfl ?_
    refine QX.then_normal (hK26 _ _ ?_)
    refine WC.cond_true rfl ?_
    refine WC.region ?_
    refine WL.runs 3 [(22, .int .i64 (IntKind.i64.wrap (16 + (i : Int)))), (21, .int .i64 (i : Int)), (20, .slice A5 n5 c5)] (fun _ => by kernel_rfl) ?_
    refine WL.recast (show (.int .i64 (IntKind.i64.wrap (16 + (i : Int))) : Value) = .int .i64 (16 + (i : Int)) from by rw [wrap_in_i64 (16 + (i : Int)) (by omega) (by omega)]) ?_
    refine WL.newM hC29 (fun b => .slice (some ⟨b, 0, none⟩) 1 1) (.cells #[.int .i64 (16 + (i : Int))] 3) 23 (fun _ => by kernel_rfl) (fun g31 w32 hb35 hF33 hC34 => ?_)
    have ho36 := own_fr ho30 hF33 (by simp)
    obtain ⟨v37, w38, hr39, ho40, hF41, hC42, hnil43, hsub44⟩ := app_run Try.prog hC34 0 (v := .slice A5 n5 c5) rfl 22 22 3 1 8 n5 1 1 (some ⟨g31, 0, none⟩) rfl ho36 [.int .i64 (16 + (i : Int))] rfl (srcOk.blk 1 (hC34.get 1 rfl)) rfl (by simp only [maxLen]; omega) (by omega)
    have ho48 := own_snoc (enc := (Go.Tw.encI .i64)) (ys := (missL i)) (16 + (i : Int)) ho40
    obtain ⟨A45, c46, rfl, hle47⟩ := own_form ho48
    refine WL.sem (Builtin.append_ #[22, 22] 22 #[.slice A5 n5 c5, .slice (some ⟨g31, 0, none⟩) 1 1]) 24 (.slice A45 (n5 + 1) c46) (by kernel_rfl) hr39 ?_
    refine WL.runs 1 [(3, .slice A45 (n5 + 1) c46)] (fun _ => by kernel_rfl) ?_
    refine WL.done rfl ?_
    refine QX.block_normal ?_
    refine QX.then_normal (hK22 _ _ ?_)
    refine WC.region ?_
    refine WL.runs 1 [(25, .int .i64 (IntKind.i64.wrap ((i : Int) + 1)))] (fun _ => by kernel_rfl) ?_
    refine WL.recast (show (.int .i64 (IntKind.i64.wrap ((i : Int) + 1)) : Value) = .int .i64 ((i : Int) + 1) from by rw [wrap_in_i64 ((i : Int) + 1) (by omega) (by omega)]) ?_
    refine WL.runs 1 [(9, .int .i64 ((i : Int) + 1))] (fun _ => by kernel_rfl) ?_
    refine WL.done rfl ?_
    refine QX.then_normal ?_
    have hC49 := hC42.pick [0] [0] rfl rfl
    refine fun a_ ha_ => hK11 _ _ _ ?_ ⟨i + 1, A45, n5 + 1, c46, rfl, rfl, hC49, by rw [missL_succ]; exact ho48, by omega⟩ a_ (ha_.weaken (sub_of ⟨rfl, rfl, rfl, rfl, rfl, trivial⟩))
    omega
  · -- (i : Int) < (n : Int): false
    have t20 : (n : Int) ≤ (i : Int) := by have q_ := of_decide_eq_false t20b; omega
    refine WC.cond_false rfl ?_
    refine WC.exit ?_
    refine QX.then_exit ?_
    refine QX.then_exit ?_
    refine QX.block_hit ?_
    refine QX.then_normal (hK6 _ _ ?_)
    refine WC.seq (fun K50 hK51 => ?_)
    refine WC.region ?_
    refine WL.runs 2 [(2, .slice A5 n5 c5), (26, .slice A5 n5 c5)] (fun _ => by kernel_rfl) ?_
    refine WL.done rfl ?_
    refine QX.then_normal (hK51 _ _ ?_)
    refine WC.ret ?_
    refine (hret _ _ _ rfl ?_).1
    clear hN hret hret' hK51 hK19 hK17 hK8 hK6 hK4 hK2
    have hie_ : i = n := by omega
    subst hie_
    have hnn_ : n5 = i := by omega
    subst hnn_
    exact ⟨_, rfl, hC15.fr.shrink (by intro x hx; simp at hx; subst hx; exact (hC15.get 0 rfl).trans hp_.symm), own_base hrow (newF_of hC15 0 rfl (by intro x hx; simp at hx; subst hx; exact lt_of_heap hp_) (by intro q_ hq_; simp at hq_; subst hq_; exact hC15.notin 0 0 rfl rfl))⟩

theorem missing_z (p : Nat) (n : Int) (Ah : Option Addr) (ch : Nat) (x2 x3 x4 x5 x6 x7 x8 : Value) (w : World) (hp_ : w.heap[p]? = some (.cells #[.int .i64 n, .slice Ah 0 ch, x2, x3, x4, x5, x6, x7, x8] 77 (0, 0))) (h0 : 0 ≤ n) (hn : n ≤ 8) : Calls Try.prog 28 #[.pointer (some ⟨p, 0, none⟩)] w fun e w' => ∃ v, e = .returned v ∧ Fr w w' [] ∧ w'.ownsRow w.heap.size 3 1 v (missL n.toNat).length ((missL n.toNat).flatMap (Go.Tw.encI .i64)) := by
  obtain ⟨k, rfl⟩ := Int.eq_ofNat_of_zero_le h0
  rw [missL_len]
  exact missing_ct p k Ah ch x2 x3 x4 x5 x6 x7 x8 w hp_ (by omega)
theorem Missing_ct (F : List Nat) (p : Nat) (T : Rn) (w : World) (ht : rdAt w F p T) (hv0 : T.hv = []) (h0_ : 0 ≤ T.n) (h1_ : T.n ≤ 8) : Calls Try.prog 14 #[.pointer (some ⟨p, 0, none⟩)] w fun e w' => ∃ v, e = .returned v ∧ Fr w w' [] ∧ w'.ownsRow w.heap.size 3 1 v (misOf T).length ((misOf T).flatMap (Go.Tw.encI .i64)) := by
  refine enterD (n := 12) Try.func14 rfl rfl (Nat.le_of_ble_eq_true rfl) ?_
  intro Q0 hN hret hret'
  have ht0 := ht
  obtain ⟨Ah, ch, Aw, cw, Al, cl, hp_, hoh_, how_, hol_, rfl, hnn_, hdd_⟩ := ht
  have hC := Cx.open3 hp_ (own_lt hoh_) (own_lt how_) (own_lt hol_) hnn_ hdd_
  refine WC.seq (fun K1 hK2 => ?_)
  refine WC.region ?_
  refine WL.runs 1 [(2, .slice none 0 0)] (fun _ => by kernel_rfl) ?_
  refine WL.done rfl ?_
  refine QX.then_normal (hK2 _ _ ?_)
  refine WC.seq (fun K3 hK4 => ?_)
  refine WC.seq (fun K5 hK6 => ?_)
  refine WC.region ?_
  refine WL.runs 1 [(3, .pointer (some ⟨p, 0, none⟩))] (fun _ => by kernel_rfl) ?_
  refine WL.call rfl rfl rfl rfl rfl (by kernel_rfl) (Stage_ct p T.stage (.int .i64 T.n) (.slice Ah T.hv.length ch) (.int .i64 T.bn) (.int .i64 T.bd) (.slice Aw T.want.length cw) (.int .i64 T.sn) (.int .i64 T.sd) (.slice Al T.log.length cl) w (hC.get 0 rfl)) ?_
  rintro _ w8 ⟨rfl, hF7⟩
  refine ⟨_, rfl, ?_⟩
  have hC9 := hC.call hF7
  have ho10 := own_fr hoh_ hF7 (by simp)
  have ho11 := own_fr how_ hF7 (by simp)
  have ho12 := own_fr hol_ hF7 (by simp)
  have hf13 := (Fr.refl w []).trans hF7 (by simp)
  refine WL.done rfl ?_
  refine QX.then_normal (hK6 _ _ ?_)
  refine WC.block ?_
  refine WC.seq (fun K14 hK15 => ?_)
  refine WC.seq (fun K16 hK17 => ?_)
  refine WC.region ?_
  refine WL.runs 2 [(5, .bool (T.stage == 1)), (6, .bool (T.stage == 1))] (fun _ => by kernel_rfl) ?_
  refine WL.done rfl ?_
  refine QX.then_normal (hK17 _ _ ?_)
  refine WC.test_at 5 (T.stage == 1) rfl (fun t18b => ?_) (fun t18b => ?_)
  · -- T.stage = 1: true
    have t18 : T.stage = 1 := by simpa using t18b
    refine WC.cond_true rfl ?_
    refine WC.skip ?_
    refine QX.then_normal (hK15 _ _ ?_)
    refine WC.cond_true rfl ?_
    refine WC.seq (fun K19 hK20 => ?_)
    refine WC.region ?_
    refine WL.runs 3 [(10, .pointer (some ⟨p, 0, none⟩)), (9, .pointer (some ⟨p, 0, none⟩)), (8, .pointer (some ⟨p, 0, none⟩))] (fun _ => by kernel_rfl) ?_
    have hp22 := hC9.get 0 rfl
    rw [hv0] at hp22
    refine WL.call rfl rfl rfl rfl rfl (by kernel_rfl) (missing_z p T.n Ah ch (.int .i64 T.bn) (.int .i64 T.bd) (.slice Aw T.want.length cw) (.int .i64 T.stage) (.int .i64 T.sn) (.int .i64 T.sd) (.slice Al T.log.length cl) w8 hp22 (by omega) (by omega)) ?_
    rintro _ w24 ⟨v_, rfl, hF23, ho21⟩
    have hC25 := hC9.callN hF23 (own_ge ho21) (own_lt ho21)
    obtain ⟨A26, c27, rfl, hle28⟩ := own_form ho21
    have ho30 := own_base (b' := 0) ho21 (fun _ _ => Nat.zero_le _)
    refine ⟨_, rfl, ?_⟩
    have ho31 := own_fr ho10 hF23 (by simp)
    have ho32 := own_fr ho11 hF23 (by simp)
    have ho33 := own_fr ho12 hF23 (by simp)
    have hf34 := hf13.trans hF23 (by simp)
    refine WL.runs 1 [(2, .slice A26 ((missL T.n.toNat).length) c27)] (fun _ => by kernel_rfl) ?_
    refine WL.done rfl ?_
    refine QX.then_normal (hK20 _ _ ?_)
    refine WC.ret ?_
    refine QX.block_ret ?_
    refine QX.then_ret ?_
    refine (hret _ _ _ rfl ?_).1
    clear hN hret hret' hK20 hK17 hK15 hK6 hK4 hK2
    rw [misOf_yes (by first | (left; assumption) | (right; assumption))]
    exact ⟨_, rfl, hf34, own_base ho30 (fun x_ hx_ => Nat.le_trans hf13.size (own_ge ho21 x_ hx_))⟩
  · -- T.stage = 1: false
    have t18 : ¬ (T.stage = 1) := by simpa using t18b
    refine WC.cond_false rfl ?_
    refine WC.region ?_
    refine WL.runs 2 [(5, .bool (T.stage == 2)), (7, .bool (T.stage == 2))] (fun _ => by kernel_rfl) ?_
    refine WL.done rfl ?_
    refine QX.then_normal (hK15 _ _ ?_)
    refine WC.test_at 5 (T.stage == 2) rfl (fun t36b => ?_) (fun t36b => ?_)
    · -- T.stage = 2: true
      have t36 : T.stage = 2 := by simpa using t36b
      refine WC.cond_true rfl ?_
      refine WC.seq (fun K37 hK38 => ?_)
      refine WC.region ?_
      refine WL.runs 3 [(10, .pointer (some ⟨p, 0, none⟩)), (9, .pointer (some ⟨p, 0, none⟩)), (8, .pointer (some ⟨p, 0, none⟩))] (fun _ => by kernel_rfl) ?_
      have hp40 := hC9.get 0 rfl
      rw [hv0] at hp40
      refine WL.call rfl rfl rfl rfl rfl (by kernel_rfl) (missing_z p T.n Ah ch (.int .i64 T.bn) (.int .i64 T.bd) (.slice Aw T.want.length cw) (.int .i64 T.stage) (.int .i64 T.sn) (.int .i64 T.sd) (.slice Al T.log.length cl) w8 hp40 (by omega) (by omega)) ?_
      rintro _ w42 ⟨v_, rfl, hF41, ho39⟩
      have hC43 := hC9.callN hF41 (own_ge ho39) (own_lt ho39)
      obtain ⟨A44, c45, rfl, hle46⟩ := own_form ho39
      have ho48 := own_base (b' := 0) ho39 (fun _ _ => Nat.zero_le _)
      refine ⟨_, rfl, ?_⟩
      have ho49 := own_fr ho10 hF41 (by simp)
      have ho50 := own_fr ho11 hF41 (by simp)
      have ho51 := own_fr ho12 hF41 (by simp)
      have hf52 := hf13.trans hF41 (by simp)
      refine WL.runs 1 [(2, .slice A44 ((missL T.n.toNat).length) c45)] (fun _ => by kernel_rfl) ?_
      refine WL.done rfl ?_
      refine QX.then_normal (hK38 _ _ ?_)
      refine WC.ret ?_
      refine QX.block_ret ?_
      refine QX.then_ret ?_
      refine (hret _ _ _ rfl ?_).1
      clear hN hret hret' hK38 hK17 hK15 hK6 hK4 hK2
      rw [misOf_yes (by first | (left; assumption) | (right; assumption))]
      exact ⟨_, rfl, hf52, own_base ho48 (fun x_ hx_ => Nat.le_trans hf13.size (own_ge ho39 x_ hx_))⟩
    · -- T.stage = 2: false
      have t36 : ¬ (T.stage = 2) := by simpa using t36b
      refine WC.cond_false rfl ?_
      refine WC.skip ?_
      refine QX.block_normal ?_
      refine QX.then_normal (hK4 _ _ ?_)
      refine WC.seq (fun K54 hK55 => ?_)
      refine WC.region ?_
      refine WL.runs 1 [(2, .slice none 0 0)] (fun _ => by kernel_rfl) ?_
      refine WL.done rfl ?_
      refine QX.then_normal (hK55 _ _ ?_)
      refine WC.ret ?_
      refine (hret _ _ _ rfl ?_).1
      clear hN hret hret' hK55 hK17 hK15 hK6 hK4 hK2
      rw [misOf_no (by first | assumption | omega) (by first | assumption | omega)]
      exact ⟨_, rfl, hf13, own_nil _ _ _ _⟩

theorem Missing_nil  (w : World) : Calls Try.prog 14 #[.pointer none] w fun e w' => e = .returned (.slice none 0 0) ∧ Fr w w' [] := by
  refine enterD (n := 12) Try.func14 rfl rfl (Nat.le_of_ble_eq_true rfl) ?_
  intro Q0 hN hret hret'
  have hC := Cx.start w
  refine WC.seq (fun K1 hK2 => ?_)
  refine WC.region ?_
  refine WL.runs 1 [(2, .slice none 0 0)] (fun _ => by kernel_rfl) ?_
  refine WL.done rfl ?_
  refine QX.then_normal (hK2 _ _ ?_)
  refine WC.seq (fun K3 hK4 => ?_)
  refine WC.seq (fun K5 hK6 => ?_)
  refine WC.region ?_
  refine WL.runs 1 [(3, .pointer none)] (fun _ => by kernel_rfl) ?_
  refine WL.call rfl rfl rfl rfl rfl (by kernel_rfl) (Stage_nil w) ?_
  rintro _ w8 ⟨rfl, hF7⟩
  refine ⟨_, rfl, ?_⟩
  have hC9 := hC.call hF7
  refine WL.done rfl ?_
  refine QX.then_normal (hK6 _ _ ?_)
  refine WC.block ?_
  refine WC.seq (fun K10 hK11 => ?_)
  refine WC.seq (fun K12 hK13 => ?_)
  refine WC.region ?_
  refine WL.runs 2 [(5, .bool false), (6, .bool false)] (fun _ => by kernel_rfl) ?_
  refine WL.done rfl ?_
  refine QX.then_normal (hK13 _ _ ?_)
  refine WC.cond_false rfl ?_
  refine WC.region ?_
  refine WL.runs 2 [(5, .bool false), (7, .bool false)] (fun _ => by kernel_rfl) ?_
  refine WL.done rfl ?_
  refine QX.then_normal (hK11 _ _ ?_)
  refine WC.cond_false rfl ?_
  refine WC.skip ?_
  refine QX.block_normal ?_
  refine QX.then_normal (hK4 _ _ ?_)
  refine WC.seq (fun K14 hK15 => ?_)
  refine WC.region ?_
  refine WL.runs 1 [(2, .slice none 0 0)] (fun _ => by kernel_rfl) ?_
  refine WL.done rfl ?_
  refine QX.then_normal (hK15 _ _ ?_)
  refine WC.ret ?_
  refine (hret _ _ _ rfl ?_).1
  clear hN hret hret' hK15 hK13 hK11 hK6 hK4 hK2
  exact ⟨rfl, hC9.fr⟩

end Go.Proofs.Ytlpmmepbfafpfaa
