/- Contracts of functions of the program, each proved by a walk through its code; conditions stand in the statements. -/
import Derived.Test.YtkafccgbagbncaaWhJ10
namespace Go.Proofs.Ytkafccgbagbncaa
set_option linter.unusedSimpArgs false
set_option linter.unusedVariables false
set_option linter.unusedSectionVars false
open Go Go.RowKit Go.Tw
set_option linter.unusedVariables false
set_option maxRecDepth 20000
theorem RCancel_n (F : List Nat) (p : Nat) (m : List (Int × Int)) (A : Option Addr) (n c : Nat) (ks : List Int) (w : World) (ht : rfAt w F p m) (hnd : (m.map (·.1)).Nodup) (hml : m.length ≤ 1099511627776) (hks : Rd w 1 (Go.Tw.encI .i64) A ks) (hn : ks.length = n) (hkl : ks.length ≤ 1099511627776) (hAF : ∀ b off, A = some ⟨b, off, none⟩ → ks ≠ [] → b ∉ F) : Calls Try.prog 20 #[.pointer (some ⟨p, 0, none⟩), .slice A n c] w fun e w' => ∃ F2, e = .returned (.int .i64 (canN m ks : Int)) ∧ Fr w w' F ∧ rfAt w' F2 p (canL m ks) ∧ ∀ x ∈ F2, x ∈ F ∨ w.heap.size ≤ x := by subst hn; exact RCancel_ct F p m A c ks w ht hnd hml hks hkl hAF
set_option maxHeartbeats 2000000 in
theorem RSet_ct (F : List Nat) (p : Nat) (m : List (Int × Int)) (a : Int) (A : Option Addr) (c : Nat) (ks : List Int) (w : World) (ht : rfAt w F p m) (ha0 : 0 ≤ a) (ha1 : a ≤ 1099511627776) (hnd : (m.map (·.1)).Nodup) (hml : m.length + ks.length ≤ 1099511627776) (hks : Rd w 1 (Go.Tw.encI .i64) A ks) (hcc : ks.length ≤ c) (hAF : ∀ b off, A = some ⟨b, off, none⟩ → ks ≠ [] → b ∉ F) : Calls Try.prog 19 #[.pointer (some ⟨p, 0, none⟩), .int .i64 a, .slice A ks.length c] w fun e w' => ∃ F2, e = .returned (.int .i64 0) ∧ Fr w w' F ∧ rfAt w' F2 p (setL m a ks) ∧ ∀ x ∈ F2, x ∈ F ∨ w.heap.size ≤ x := by
  refine enterD (n := 42) Try.func19 rfl rfl (Nat.le_of_ble_eq_true rfl) ?_
  intro Q0 hN hret hret'
  have ht0 := ht
  obtain ⟨A1, c1, hp_, ho_, rfl, hn_⟩ := ht
  have hC := Cx.openR hp_ (own_lt ho_) hn_
  have hmx_ := own_max ho_
  refine WC.seq (fun K1 hK2 => ?_)
  refine WC.region ?_
  refine WL.runs 1 [(6, .int .i64 0)] (fun _ => by kernel_rfl) ?_
  refine WL.done rfl ?_
  refine QX.then_normal (hK2 _ _ ?_)
  refine WC.seq (fun K3 hK4 => ?_)
  refine WC.seq (fun K5 hK6 => ?_)
  refine WC.region ?_
  refine WL.runs 3 [(10, .bool (decide (a < 0))), (9, .bool (decide (a < 0))), (8, .int .i64 a)] (fun _ => by kernel_rfl) ?_
  refine WL.know 10 (.bool (decide (a < 0))) (.bool false) rfl (congrArg Value.bool (by simp; omega)) ?_
  refine WL.runs 3 [(13, .bool (decide (a > 1099511627776))), (12, .bool (decide (a > 1099511627776))), (11, .int .i64 a)] (fun _ => by kernel_rfl) ?_
  refine WL.done rfl ?_
  refine QX.then_normal (hK6 _ _ ?_)
  refine WC.know 13 (.bool (decide (a > 1099511627776))) (.bool false) rfl (congrArg Value.bool (by simp; omega)) ?_
  refine WC.cond_false rfl ?_
  refine WC.skip ?_
  refine QX.then_normal (hK4 _ _ ?_)
  refine WC.seq (fun K7 hK8 => ?_)
  refine WC.seq (fun K9 hK10 => ?_)
  refine WC.region ?_
  refine WL.runs 1 [(7, .int .i64 0)] (fun _ => by kernel_rfl) ?_
  refine WL.done rfl ?_
  refine QX.then_normal (hK10 _ _ ?_)
  refine WC.block ?_
  refine WC.loop (fun m_ E_ w_ => ∃ (i : Nat) (A5 : Option Addr) (n5 c5 : Nat) (m5 : List (Int × Int)), m_ = ks.length - i ∧ E_ = [(0, .pointer (some ⟨p, 0, none⟩)), (1, .int .i64 a), (2, .slice A ks.length c), (6, .int .i64 0), (7, .int .i64 (i : Int))] ∧ Cx w (p :: blk (.slice A1 m.length c1)) w_ [(p, .cells #[.slice A5 n5 c5] 49)] [blk (.slice A5 n5 c5)] ∧ World.ownsRow w_ 0 75 2 (.slice A5 n5 c5) n5 (m5.flatMap tmC) ∧ (i ≤ ks.length ∧ (m5.map (·.1)).Nodup ∧ setL m a ks = setL m5 a (ks.drop i) ∧ m5.length ≤ m.length + i)) ⟨_, _, ⟨0, A1, m.length, c1, m, rfl, rfl, hC, ho_, Nat.zero_le _, hnd, rfl, Nat.le_refl _⟩, sub_of ⟨rfl, rfl, rfl, rfl, rfl, trivial⟩⟩ (fun m14 E_ w15 K11 hK12 hI13 => ?_)
  obtain ⟨i, A5, n5, c5, m5, rfl, rfl, hC16, hrow5, hi, hnd5, hsl, hml5⟩ := hI13
  have hc5_ := own_count tmC_len (by decide) hrow5
  refine WC.seq (fun K17 hK18 => ?_)
  refine WC.seq (fun K19 hK20 => ?_)
  refine WC.region ?_
  refine WL.runs 4 [(17, .bool (decide ((i : Int) < (ks.length : Int)))), (16, .int .i64 (ks.length : Int)), (15, .slice A ks.length c), (14, .int .i64 (i : Int))] (fun _ => by kernel_rfl) ?_
  refine WL.done rfl ?_
  refine QX.then_normal (hK20 _ _ ?_)
  refine WC.test_at 17 (decide ((i : Int) < (ks.length : Int))) rfl (fun t21b => ?_) (fun t21b => ?_)
  · -- (i : Int) < (ks.length : Int): true
    have t21 : (i : Int) < (ks.length : Int) := by have q_ := of_decide_eq_true t21b; omega
    refine WC.cond_true rfl ?_
    refine WC.skip ?_
    refine QX.then_normal (hK18 _ _ ?_)
    refine WC.seq (fun K22 hK23 => ?_)
    refine WC.block ?_
    refine WC.seq (fun K24 hK25 => ?_)
    refine WC.region ?_
    refine WL.runs 5 [(24, .int .i64 (IntKind.i64.wrap ((i : Int) + 1))), (23, .int .i64 (i : Int)), (22, .int .i64 (i : Int)), (21, .slice A ks.length c), (20, .pointer (some ⟨p, 0, none⟩))] (fun _ => by kernel_rfl) ?_
    refine WL.recast (show (.int .i64 (IntKind.i64.wrap ((i : Int) + 1)) : Value) = .int .i64 ((i : Int) + 1) from by rw [wrap_in_i64 ((i : Int) + 1) (by omega) (by omega)]) ?_
    obtain ⟨A26, hA27⟩ : ∃ A_, slcAt A i c 1 = A_ := ⟨_, rfl⟩
    have hb28 : i + 1 ≤ c := by omega
    refine WL.slc 22 3 1 A A26 ks.length c i (i + 1) ((i + 1) - i) (c - i) (some (.int .i64 (i : Int))) (some (.int .i64 ((i : Int) + 1))) 25 (by kernel_rfl) (by kernel_rfl) (bnd.yes (by omega)) (bnd.yes (by omega)) (by omega) hb28 hA27 (by first | rfl | omega) (by first | rfl | omega) ?_
    have hrd29 := Rd.slc hks i (i + 1) c hb28 hA27
    obtain ⟨ke_, hke_⟩ := get_some (xs := ks) (i := i) (by omega)
    have hdl_ := canL_len (m := m5) ke_
    have hrf30 : rfAt w15 (p :: blk (.slice A5 n5 c5)) p m5 := rf_mk hC16 0 0 rfl rfl hrow5
    have hC31 := hC16.toF1 0 0 rfl rfl
    have hAFw_ : ∀ b_ off_, A26 = some ⟨b_, off_, none⟩ → b_ < w.heap.size ∧ b_ ∉ (p :: blk (.slice A1 m.length c1)) := fun b_ off_ e_ => by
      obtain ⟨b0_, o0_, hA0_, _⟩ := hks.at_ _ _ hke_
      have hb0_ := slc_some hA0_ (hA27.trans e_)
      subst hb0_
      exact ⟨rd_lt hks (fun _ => by simp [Go.Tw.encI_len]) hA0_ (ne_of_get hke_), hAF _ _ hA0_ (ne_of_get hke_)⟩
    have hAFs_ : ∀ b_ off_, A26 = some ⟨b_, off_, none⟩ → b_ ∉ (p :: blk (.slice A1 m.length c1)) := fun b_ off_ e_ => (hAFw_ b_ off_ e_).2
    refine WL.call rfl rfl rfl rfl rfl (by kernel_rfl) (RCancel_n (p :: blk (.slice A5 n5 c5)) p m5 A26 ((i + 1) - i) (c - i) ((ks.take (i + 1)).drop i) w15 hrf30 hnd5 (by omega) (Rd.frN hrd29 hC31.fr hAFs_) (by rw [drop_take_one hke_]; simp) (by rw [drop_take_one hke_]; simp) (fun b_ off_ e_ _ hx_ => (hC31.ownF _ (List.mem_of_getElem? (show _[0]? = some (p :: blk (.slice A5 n5 c5)) from rfl)) b_ hx_).elim (hAFw_ b_ off_ e_).2 (fun h_ => absurd (hAFw_ b_ off_ e_).1 (Nat.not_lt.2 h_)))) ?_
    rintro _ w33 ⟨F36, rfl, hF32, hT35, hsub37⟩
    have hT35' : rfAt w33 F36 p (delL m5 ke_) := by have z_ := hT35; rw [drop_take_one hke_] at z_; exact z_
    have hC34 := hC31.callF 0 rfl hF32 hsub37 (rfAt_lt hT35)
    refine ⟨_, rfl, ?_⟩
    obtain ⟨A38, c39, hp40, ho41, rfl, hn42⟩ := hT35'
    have hC43 := hC34.unF1 0 rfl hp40 hn42
    refine WL.done rfl ?_
    refine QX.then_normal (hK25 _ _ ?_)
    refine WC.drawC hC43 (p :: blk (.slice A38 ((delL m5 ke_).length) c39)) (by kernel_rfl) (fun w44 hF45 hC46 hS47 => ?_)
    have ho48 := own_fr ho41 hF45 (by simp)
    refine WD.pure (NoPanic.block (NoPanic.then (NoPanic.then (NoPanic.block (NoPanic.then hN))))) 0 27 (.pointer (some ⟨p, 0, none⟩)) (by kernel_rfl) (fun _ => by kernel_rfl) hS47 ?_
    refine WD.pure (NoPanic.block (NoPanic.then (NoPanic.then (NoPanic.block (NoPanic.then hN))))) 1 28 (.pointer (some ⟨p, 0, none⟩)) (by kernel_rfl) (fun _ => by kernel_rfl) hS47 ?_
    refine WD.pure (NoPanic.block (NoPanic.then (NoPanic.then (NoPanic.block (NoPanic.then hN))))) 2 29 (.pointer (some ⟨p, 0, none⟩)) (by kernel_rfl) (fun _ => by kernel_rfl) hS47 ?_
    refine WD.pure (NoPanic.block (NoPanic.then (NoPanic.then (NoPanic.block (NoPanic.then hN))))) 3 30 (.pointer (some ⟨p, 0, none⟩)) (by kernel_rfl) (fun _ => by kernel_rfl) hS47 ?_
    refine WD.pure (NoPanic.block (NoPanic.then (NoPanic.then (NoPanic.block (NoPanic.then hN))))) 5 32 (.slice A ks.length c) (by kernel_rfl) (fun _ => by kernel_rfl) hS47 ?_
    refine WD.pure (NoPanic.block (NoPanic.then (NoPanic.then (NoPanic.block (NoPanic.then hN))))) 6 33 (.int .i64 (i : Int)) (by kernel_rfl) (fun _ => by kernel_rfl) hS47 ?_
    obtain ⟨e49, he50⟩ := get_some (xs := ks) (i := i) (by omega)
    obtain ⟨b51, o53, hA52, hc54⟩ := hks.at_ _ _ he50
    refine WD.index (NoPanic.block (NoPanic.then (NoPanic.then (NoPanic.block (NoPanic.then hN))))) 7 A ks.length c 34 .i64 (i : Int) b51 o53 i 1 (by kernel_rfl) (by kernel_rfl) hA52 (by omega) (by omega) (o53 + i) (by first | (simp; done) | omega) hS47 ?_
    refine WD.pure (NoPanic.block (NoPanic.then (NoPanic.then (NoPanic.block (NoPanic.then hN))))) 9 36 (.int .i64 a) (by kernel_rfl) (fun _ => by kernel_rfl) hS47 ?_
    refine WD.load (NoPanic.block (NoPanic.then (NoPanic.then (NoPanic.block (NoPanic.then hN))))) 8 3 (.pointer (some ⟨b51, o53 + i, none⟩)) (.int .i64 e49) 35 (by kernel_rfl) (by kernel_rfl) (fun _ hS_ => run_load1 rfl (by simpa [Nat.add_assoc] using Fr.cell hS_ (hC46.fr.cell (hc54 0 _ rfl) (by have q_ := hAF _ _ hA52 (ne_of_get he50); simp only [List.mem_cons, not_or] at q_ ⊢; exact q_)) (fun h_ => (List.mem_cons.1 h_).elim (fun e_ => (hAF _ _ hA52 (ne_of_get he50)) (e_ ▸ List.mem_cons_self)) (fun hx_ => (hC46.ownF _ (List.mem_of_getElem? (show _[0]? = some (blk (.slice A38 ((delL m5 ke_).length) c39)) from rfl)) _ hx_).elim (hAF _ _ hA52 (ne_of_get he50)) (fun h2_ => absurd (rd_lt hks (fun _ => by simp [Go.Tw.encI_len]) hA52 (ne_of_get he50)) (Nat.not_lt.2 h2_)))))) hS47 ?_
    refine WD.pure (NoPanic.block (NoPanic.then (NoPanic.then (NoPanic.block (NoPanic.then hN))))) 10 37 (.agg #[.int .i64 e49, .int .i64 a]) (by kernel_rfl) (fun _ => by kernel_rfl) hS47 ?_
    refine WD.all2 4 11 (by kernel_rfl) ?_ ?_
    · -- operation 4 comes first
      refine WO.sem 4 (Instr.loadAt 47 (.pointer (some ⟨p, 0, none⟩))) 31 (.slice A38 ((delL m5 ke_).length) c39) (by kernel_rfl) (by kernel_rfl) (run_ld (hC46.get 0 rfl) rfl) hS47 ?_
      refine WD.new 11 (fun b => .slice (some ⟨b, 0, none⟩) 1 1) (.cells #[.int .i64 e49, .int .i64 a] 75) (by kernel_rfl) rfl rfl rfl rfl rfl (fun _ => by kernel_rfl) (fun g55 w56 hb59 hl60 hF57 ho61 => ?_)
      have hC58 := hC46.callB hF57 hb59 ho61
      have hS62 := hS47.trans hF57 (by simp)
      refine ⟨hS62, ?_⟩
      have ho63 := own_fr ho48 hF57 (by simp)
      obtain ⟨v64, w65, hr66, ho67, hF68, hC69, hnil70, hsub71⟩ := app_run Try.prog hC58 0 (v := .slice A38 ((delL m5 ke_).length) c39) rfl 47 47 75 2 16 ((delL m5 ke_).length) 1 1 (some ⟨g55, 0, none⟩) rfl ho63 [.int .i64 e49, .int .i64 a] rfl (srcOk.blk 1 (hC58.get 1 rfl)) rfl (by simp only [maxLen]; omega) (by omega)
      have ho75 := own_snoc (enc := tmC) (ys := (delL m5 ke_)) (e49, a) ho67
      obtain ⟨A72, c73, rfl, hle74⟩ := own_form ho75
      have hS76 := hS62.trans hF68 (fun x_ hx_ => .inl (List.mem_cons_of_mem _ hx_))
      refine WD.sem 12 (Builtin.append_ #[47, 47] 47 #[.slice A38 ((delL m5 ke_).length) c39, .slice (some ⟨g55, 0, none⟩) 1 1]) 39 (.slice A72 ((delL m5 ke_).length + 1) c73) (by kernel_rfl) (by kernel_rfl) hr66 hS76 ?_
      refine WD.pure (NoPanic.block (NoPanic.then (NoPanic.then (NoPanic.block (NoPanic.then hN))))) 13 40 (.pointer (some ⟨p, 0, none⟩)) (by kernel_rfl) (fun _ => by kernel_rfl) hS76 ?_
      refine WD.pure (NoPanic.block (NoPanic.then (NoPanic.then (NoPanic.block (NoPanic.then hN))))) 14 41 (.pointer (some ⟨p, 0, none⟩)) (by kernel_rfl) (fun _ => by kernel_rfl) hS76 ?_
      obtain ⟨w77, hr78, hF79, hC80⟩ := sto_run (c' := #[.slice A72 ((delL m5 ke_).length + 1) c73]) Try.prog hC69 0 47 p 0 (.slice A72 ((delL m5 ke_).length + 1) c73) rfl (by kernel_rfl)
      have hS81 := hS76.trans hF79 (by first | (simp; done) | (simp [*]; done) | (have q_ := hS76.size; simp; omega))
      refine WD.semU 15 (Instr.storeAt 47 (.pointer (some ⟨p, 0, none⟩)) (.slice A72 ((delL m5 ke_).length + 1) c73)) (by kernel_rfl) (by kernel_rfl) hr78 hS81 ?_
      have ho82 := own_fr ho75 hF79 (hC69.apartM 0 0 rfl rfl)
      refine WD.done (by kernel_rfl) ?_
      refine QX.block_normal ?_
      refine QX.then_normal (hK23 _ _ ?_)
      refine WC.region ?_
      refine WL.runs 2 [(19, .int .i64 (IntKind.i64.wrap ((i : Int) + 1))), (18, .int .i64 (i : Int))] (fun _ => by kernel_rfl) ?_
      refine WL.recast (show (.int .i64 (IntKind.i64.wrap ((i : Int) + 1)) : Value) = .int .i64 ((i : Int) + 1) from by rw [wrap_in_i64 ((i : Int) + 1) (by omega) (by omega)]) ?_
      refine WL.runs 1 [(7, .int .i64 ((i : Int) + 1))] (fun _ => by kernel_rfl) ?_
      refine WL.done rfl ?_
      refine QX.then_normal ?_
      have hC83 := hC80.pick [0] [0] rfl rfl
      have hkk_ : ke_ = e49 := Option.some.inj (hke_.symm.trans he50)
      refine fun a_ ha_ => hK12 _ _ _ ?_ ⟨i + 1, A72, (delL m5 ke_).length + 1, c73, (delL m5 ke_) ++ [(e49, a)], rfl, rfl, hC83, ho82, by omega, by rw [hkk_]; exact setL_keys hnd5 a [e49], by rw [hsl, setL_step he50, hkk_], by rw [List.length_append]; simp only [List.length_cons, List.length_nil]; omega⟩ a_ (ha_.weaken (sub_of ⟨rfl, rfl, rfl, rfl, rfl, trivial⟩))
      omega
    · -- operation 11 comes first
      refine WO.new 11 (fun b => .slice (some ⟨b, 0, none⟩) 1 1) (.cells #[.int .i64 e49, .int .i64 a] 75) (by kernel_rfl) rfl rfl rfl rfl rfl (fun _ => by kernel_rfl) (fun g84 w85 hb88 hl89 hF86 ho90 => ?_)
      have hC87 := hC46.callB hF86 hb88 ho90
      have hS91 := hS47.trans hF86 (by simp)
      refine ⟨hS91, ?_⟩
      have ho92 := own_fr ho48 hF86 (by simp)
      refine WD.sem 4 (Instr.loadAt 47 (.pointer (some ⟨p, 0, none⟩))) 31 (.slice A38 ((delL m5 ke_).length) c39) (by kernel_rfl) (by kernel_rfl) (run_ld (hC87.get 0 rfl) rfl) hS91 ?_
      obtain ⟨v93, w94, hr95, ho96, hF97, hC98, hnil99, hsub100⟩ := app_run Try.prog hC87 0 (v := .slice A38 ((delL m5 ke_).length) c39) rfl 47 47 75 2 16 ((delL m5 ke_).length) 1 1 (some ⟨g84, 0, none⟩) rfl ho92 [.int .i64 e49, .int .i64 a] rfl (srcOk.blk 1 (hC87.get 1 rfl)) rfl (by simp only [maxLen]; omega) (by omega)
      have ho104 := own_snoc (enc := tmC) (ys := (delL m5 ke_)) (e49, a) ho96
      obtain ⟨A101, c102, rfl, hle103⟩ := own_form ho104
      have hS105 := hS91.trans hF97 (fun x_ hx_ => .inl (List.mem_cons_of_mem _ hx_))
      refine WD.sem 12 (Builtin.append_ #[47, 47] 47 #[.slice A38 ((delL m5 ke_).length) c39, .slice (some ⟨g84, 0, none⟩) 1 1]) 39 (.slice A101 ((delL m5 ke_).length + 1) c102) (by kernel_rfl) (by kernel_rfl) hr95 hS105 ?_
      refine WD.pure (NoPanic.block (NoPanic.then (NoPanic.then (NoPanic.block (NoPanic.then hN))))) 13 40 (.pointer (some ⟨p, 0, none⟩)) (by kernel_rfl) (fun _ => by kernel_rfl) hS105 ?_
      refine WD.pure (NoPanic.block (NoPanic.then (NoPanic.then (NoPanic.block (NoPanic.then hN))))) 14 41 (.pointer (some ⟨p, 0, none⟩)) (by kernel_rfl) (fun _ => by kernel_rfl) hS105 ?_
      obtain ⟨w106, hr107, hF108, hC109⟩ := sto_run (c' := #[.slice A101 ((delL m5 ke_).length + 1) c102]) Try.prog hC98 0 47 p 0 (.slice A101 ((delL m5 ke_).length + 1) c102) rfl (by kernel_rfl)
      have hS110 := hS105.trans hF108 (by first | (simp; done) | (simp [*]; done) | (have q_ := hS105.size; simp; omega))
      refine WD.semU 15 (Instr.storeAt 47 (.pointer (some ⟨p, 0, none⟩)) (.slice A101 ((delL m5 ke_).length + 1) c102)) (by kernel_rfl) (by kernel_rfl) hr107 hS110 ?_
      have ho111 := own_fr ho104 hF108 (hC98.apartM 0 0 rfl rfl)
      refine WD.done (by kernel_rfl) ?_
      refine QX.block_normal ?_
      refine QX.then_normal (hK23 _ _ ?_)
      refine WC.region ?_
      refine WL.runs 2 [(19, .int .i64 (IntKind.i64.wrap ((i : Int) + 1))), (18, .int .i64 (i : Int))] (fun _ => by kernel_rfl) ?_
      refine WL.recast (show (.int .i64 (IntKind.i64.wrap ((i : Int) + 1)) : Value) = .int .i64 ((i : Int) + 1) from by rw [wrap_in_i64 ((i : Int) + 1) (by omega) (by omega)]) ?_
      refine WL.runs 1 [(7, .int .i64 ((i : Int) + 1))] (fun _ => by kernel_rfl) ?_
      refine WL.done rfl ?_
      refine QX.then_normal ?_
      have hC112 := hC109.pick [0] [0] rfl rfl
      have hkk_ : ke_ = e49 := Option.some.inj (hke_.symm.trans he50)
      refine fun a_ ha_ => hK12 _ _ _ ?_ ⟨i + 1, A101, (delL m5 ke_).length + 1, c102, (delL m5 ke_) ++ [(e49, a)], rfl, rfl, hC112, ho111, by omega, by rw [hkk_]; exact setL_keys hnd5 a [e49], by rw [hsl, setL_step he50, hkk_], by rw [List.length_append]; simp only [List.length_cons, List.length_nil]; omega⟩ a_ (ha_.weaken (sub_of ⟨rfl, rfl, rfl, rfl, rfl, trivial⟩))
      omega
  · -- (i : Int) < (ks.length : Int): false
    have t21 : (ks.length : Int) ≤ (i : Int) := by have q_ := of_decide_eq_false t21b; omega
    refine WC.cond_false rfl ?_
    refine WC.exit ?_
    refine QX.then_exit ?_
    refine QX.then_exit ?_
    refine QX.block_hit ?_
    refine QX.then_normal (hK8 _ _ ?_)
    refine WC.seq (fun K113 hK114 => ?_)
    refine WC.region ?_
    refine WL.runs 1 [(6, .int .i64 0)] (fun _ => by kernel_rfl) ?_
    refine WL.done rfl ?_
    refine QX.then_normal (hK114 _ _ ?_)
    refine WC.ret ?_
    refine (hret _ _ _ rfl ?_).1
    clear hN hret hret' hK114 hK20 hK18 hK10 hK8 hK6 hK4 hK2
    have hie_ : i = ks.length := by omega
    subst hie_
    rw [List.drop_length, show setL m5 a [] = m5 from rfl] at hsl
    have hrf_ := rf_mk hC16 0 0 rfl rfl hrow5
    rw [← hsl] at hrf_
    exact ⟨_, rfl, hC16.fr, hrf_, fun x_ hx_ => (List.mem_cons.1 hx_).elim (fun e_ => by subst e_; exact .inl List.mem_cons_self) (fun h_ => hC16.ownF _ (List.mem_of_getElem? (show _[0]? = some (blk (.slice A5 n5 c5)) from rfl)) x_ h_)⟩

theorem RSet_no (p : Nat) (a : Int) (A : Option Addr) (n c : Nat) (w : World) (h : a < 0 ∨ 1099511627776 < a) : Calls Try.prog 19 #[.pointer (some ⟨p, 0, none⟩), .int .i64 a, .slice A n c] w fun e w' => e = .returned (.int .i64 4) ∧ Fr w w' [] := by
  refine enterD (n := 42) Try.func19 rfl rfl (Nat.le_of_ble_eq_true rfl) ?_
  intro Q0 hN hret hret'
  have hC := Cx.start w
  refine WC.seq (fun K1 hK2 => ?_)
  refine WC.region ?_
  refine WL.runs 1 [(6, .int .i64 0)] (fun _ => by kernel_rfl) ?_
  refine WL.done rfl ?_
  refine QX.then_normal (hK2 _ _ ?_)
  refine WC.seq (fun K3 hK4 => ?_)
  refine WC.seq (fun K5 hK6 => ?_)
  refine WC.region ?_
  refine WL.runs 3 [(10, .bool (decide (a < 0))), (9, .bool (decide (a < 0))), (8, .int .i64 a)] (fun _ => by kernel_rfl) ?_
  refine WL.test_at 10 (decide (a < 0)) rfl (fun t7b => ?_) (fun t7b => ?_)
  · -- a < 0: true
    have t7 : a < 0 := by have q_ := of_decide_eq_true t7b; omega
    refine WL.runs 3 [(13, .bool true), (12, undef), (11, undef)] (fun _ => by kernel_rfl) ?_
    refine WL.done rfl ?_
    refine QX.then_normal (hK6 _ _ ?_)
    refine WC.cond_true rfl ?_
    refine WC.seq (fun K8 hK9 => ?_)
    refine WC.region ?_
    refine WL.runs 1 [(6, .int .i64 4)] (fun _ => by kernel_rfl) ?_
    refine WL.done rfl ?_
    refine QX.then_normal (hK9 _ _ ?_)
    refine WC.ret ?_
    refine QX.then_ret ?_
    refine (hret _ _ _ rfl ?_).1
    clear hN hret hret' hK9 hK6 hK4 hK2
    exact ⟨rfl, hC.fr⟩
  · -- a < 0: false
    have t7 : (0 : Int) ≤ a := by have q_ := of_decide_eq_false t7b; omega
    refine WL.runs 3 [(13, .bool (decide (a > 1099511627776))), (12, .bool (decide (a > 1099511627776))), (11, .int .i64 a)] (fun _ => by kernel_rfl) ?_
    refine WL.done rfl ?_
    refine QX.then_normal (hK6 _ _ ?_)
    refine WC.test_at 13 (decide (a > 1099511627776)) rfl (fun t10b => ?_) (fun t10b => ?_)
    · -- a > 1099511627776: true
      have t10 : (1099511627776 : Int) < a := by have q_ := of_decide_eq_true t10b; omega
      refine WC.cond_true rfl ?_
      refine WC.seq (fun K11 hK12 => ?_)
      refine WC.region ?_
      refine WL.runs 1 [(6, .int .i64 4)] (fun _ => by kernel_rfl) ?_
      refine WL.done rfl ?_
      refine QX.then_normal (hK12 _ _ ?_)
      refine WC.ret ?_
      refine QX.then_ret ?_
      refine (hret _ _ _ rfl ?_).1
      clear hN hret hret' hK12 hK6 hK4 hK2
      exact ⟨rfl, hC.fr⟩
    · -- a > 1099511627776: false
      have t10 : a ≤ 1099511627776 := by have q_ := of_decide_eq_false t10b; omega
      refine WC.cond_false rfl ?_
      refine WC.skip ?_
      refine QX.then_normal (hK4 _ _ ?_)
      refine WC.seq (fun K13 hK14 => ?_)
      refine WC.seq (fun K15 hK16 => ?_)
      refine WC.region ?_
      refine WL.runs 1 [(7, .int .i64 0)] (fun _ => by kernel_rfl) ?_
      refine WL.done rfl ?_
      refine QX.then_normal (hK16 _ _ ?_)
      refine WC.block ?_
      refine WC.loop (fun m_ E_ w_ => ∃ (k : Nat), m_ = k ∧ E_ = [(0, .pointer (some ⟨p, 0, none⟩)), (1, .int .i64 a), (2, .slice A n c), (6, .int .i64 0), (8, .int .i64 a), (9, .bool (decide (a < 0))), (10, .bool false), (11, .int .i64 a), (12, .bool (decide (a > 1099511627776))), (13, .bool false)] ∧ Cx w [] w_ [] [] ∧ (True)) ⟨_, _, ⟨0, rfl, rfl, hC, trivial⟩, sub_of ⟨rfl, rfl, rfl, rfl, rfl, rfl, rfl, rfl, rfl, rfl, trivial⟩⟩ (fun m20 E_ w21 K17 hK18 hI19 => ?_)
      obtain ⟨k, rfl, rfl, hC22, hinvm20⟩ := hI19
      refine WC.seq (fun K23 hK24 => ?_)
      refine WC.seq (fun K25 hK26 => ?_)
      refine WC.region ?_
      exfalso; omega

set_option maxHeartbeats 2000000 in
theorem RDue_ct (F : List Nat) (p : Nat) (m : List (Int × Int)) (now : Int) (w : World) (ht : rfAt w F p m) (hnd : (m.map (·.1)).Nodup) (hml : m.length ≤ 1099511627776) : Calls Try.prog 23 #[.pointer (some ⟨p, 0, none⟩), .int .i64 now] w fun e w' => ∃ v F2, e = .returned v ∧ Fr w w' F ∧ rfAt w' F2 p (canL m (dueK m now)) ∧ (∀ x ∈ F2, x ∈ F ∨ w.heap.size ≤ x) ∧ w'.ownsRow w.heap.size 3 1 v (dueK m now).length ((dueK m now).flatMap (Go.Tw.encI .i64)) ∧ ∀ x ∈ blk v, x ∉ F2 := by
  refine enterD (n := 46) Try.func23 rfl rfl (Nat.le_of_ble_eq_true rfl) ?_
  intro Q0 hN hret hret'
  have ht0 := ht
  obtain ⟨A1, c1, hp_, ho_, rfl, hn_⟩ := ht
  have hC := Cx.openR hp_ (own_lt ho_) hn_
  have hmx_ := own_max ho_
  refine WC.seq (fun K1 hK2 => ?_)
  refine WC.region ?_
  refine WL.runs 1 [(4, .slice none 0 0)] (fun _ => by kernel_rfl) ?_
  refine WL.done rfl ?_
  refine QX.then_normal (hK2 _ _ ?_)
  refine WC.seq (fun K3 hK4 => ?_)
  refine WC.region ?_
  refine WL.runs 1 [(5, .slice none 0 0)] (fun _ => by kernel_rfl) ?_
  refine WL.done rfl ?_
  refine QX.then_normal (hK4 _ _ ?_)
  refine WC.block ?_
  have hC5 := hC.addNil
  refine WC.loop (fun m_ E_ w_ => ∃ (A5 : Option Addr) (n5 c5 : Nat) (m5 : List (Int × Int)) (A7 : Option Addr) (n7 c7 : Nat) (ol : List Int), m_ = m5.length + 0 ∧ E_ = [(0, .pointer (some ⟨p, 0, none⟩)), (1, .int .i64 now), (5, .slice A7 n7 c7)] ∧ Cx w (p :: blk (.slice A1 m.length c1)) w_ [(p, .cells #[.slice A5 n5 c5] 49)] [blk (.slice A5 n5 c5), blk (.slice A7 n7 c7)] ∧ World.ownsRow w_ 0 75 2 (.slice A5 n5 c5) n5 (m5.flatMap tmC) ∧ World.ownsRow w_ 0 3 1 (.slice A7 n7 c7) n7 (ol.flatMap (Go.Tw.encI .i64)) ∧ ((m5.map (·.1)).Nodup ∧ ol ++ dueK m5 now = dueK m now ∧ canL m (dueK m now) = canL m5 (dueK m5 now) ∧ m5.length ≤ m.length ∧ ∀ x_ ∈ blk (.slice A7 n7 c7), w.heap.size ≤ x_)) ⟨_, _, ⟨A1, m.length, c1, m, none, 0, 0, [], rfl, rfl, hC5, ho_, own_nil _ _ _ _, hnd, by simp, rfl, Nat.le_refl _, (fun _ h_ => nomatch h_)⟩, sub_of ⟨rfl, rfl, rfl, trivial⟩⟩ (fun m9 E_ w10 K6 hK7 hI8 => ?_)
  obtain ⟨A5, n5, c5, m5, A7, n7, c7, ol, rfl, rfl, hC11, hrow5, hout7, hnd5, hout, hcl, hml5, hfo⟩ := hI8
  have hc5_ := own_count tmC_len (by decide) hrow5
  have hc7_ := own_count (Go.Tw.encI_len _) (by decide) hout7
  have hol_ : ol.length ≤ m.length := by have q_ := congrArg List.length hout; rw [List.length_append] at q_; have z_ := dueK_len m now; omega
  refine WC.block ?_
  refine WC.seq (fun K12 hK13 => ?_)
  refine WC.region ?_
  refine WL.runs 1 [(7, .pointer (some ⟨p, 0, none⟩))] (fun _ => by kernel_rfl) ?_
  refine WL.call rfl rfl rfl rfl rfl (by kernel_rfl) (first_ct _ p m5 w10 (rf_mk hC11 0 0 rfl rfl hrow5)) ?_
  rintro _ w18 ⟨b14, rfl, hfi15, hbl16, hF17⟩
  refine ⟨_, rfl, ?_⟩
  have hC19 := hC11.call hF17
  have ho20 := own_fr hrow5 hF17 (by simp)
  have ho21 := own_fr hout7 hF17 (by simp)
  refine WL.runs 1 [(6, .int .i64 ((b14 : Int) - 1))] (fun _ => by kernel_rfl) ?_
  refine WL.done rfl ?_
  refine QX.then_normal (hK13 _ _ ?_)
  refine WC.seq (fun K22 hK23 => ?_)
  refine WC.seq (fun K24 hK25 => ?_)
  refine WC.region ?_
  refine WL.runs 3 [(11, .bool (decide (((b14 : Int) - 1) < 0))), (10, .bool (decide (((b14 : Int) - 1) < 0))), (9, .int .i64 ((b14 : Int) - 1))] (fun _ => by kernel_rfl) ?_
  refine WL.test_at 11 (decide (((b14 : Int) - 1) < 0)) rfl (fun t26b => ?_) (fun t26b => ?_)
  · -- ((b14 : Int) - 1) < 0: true
    have t26 : ((b14 : Int) - 1) < 0 := by have q_ := of_decide_eq_true t26b; omega
    refine WL.runs 11 [(22, .bool true), (21, undef), (20, undef), (19, undef), (18, undef), (17, undef), (16, undef), (15, undef), (14, undef), (13, undef), (12, undef)] (fun _ => by kernel_rfl) ?_
    refine WL.done rfl ?_
    refine QX.then_normal (hK25 _ _ ?_)
    refine WC.cond_true rfl ?_
    refine WC.seq (fun K27 hK28 => ?_)
    refine WC.region ?_
    refine WL.runs 2 [(4, .slice A7 n7 c7), (23, .slice A7 n7 c7)] (fun _ => by kernel_rfl) ?_
    refine WL.done rfl ?_
    refine QX.then_normal (hK28 _ _ ?_)
    refine WC.ret ?_
    refine QX.then_ret ?_
    refine QX.block_ret ?_
    refine QX.then_ret ?_
    refine QX.block_ret ?_
    refine (hret _ _ _ rfl ?_).1
    clear hN hret hret' hK28 hK25 hK23 hK13 hK4 hK2
    have hdn_ := FirstI.none (now := now) hfi15 (.inl (by omega))
    rw [hdn_, List.append_nil] at hout
    rw [hdn_] at hcl
    have hrf_ := rf_mk hC19 0 0 rfl rfl ho20
    have hcl2_ : canL m (dueK m now) = m5 := hcl
    rw [← hcl2_] at hrf_
    subst hout
    subst hc7_
    exact ⟨_, _, rfl, hC19.fr, hrf_, fun x_ hx_ => (List.mem_cons.1 hx_).elim (fun e_ => by subst e_; exact .inl List.mem_cons_self) (fun h_ => hC19.ownF _ (List.mem_of_getElem? (show _[0]? = some (blk (.slice A5 n5 c5)) from rfl)) x_ h_), own_base ho21 hfo, fun x_ hx_ h_ => (List.mem_cons.1 h_).elim (fun e_ => by subst e_; exact hC19.notin 1 0 rfl rfl hx_) (fun h2_ => hC19.disj 1 0 rfl rfl (by decide) x_ hx_ h2_)⟩
  · -- ((b14 : Int) - 1) < 0: false
    have t26 : (0 : Int) ≤ ((b14 : Int) - 1) := by have q_ := of_decide_eq_false t26b; omega
    refine WL.runs 3 [(14, .pointer (some ⟨p, 0, none⟩)), (13, .pointer (some ⟨p, 0, none⟩)), (12, .pointer (some ⟨p, 0, none⟩))] (fun _ => by kernel_rfl) ?_
    refine WL.load 47 (.pointer (some ⟨p, 0, none⟩)) (.slice A5 n5 c5) 15 (by kernel_rfl) (run_ld (hC19.get 0 rfl) rfl) ?_
    refine WL.runs 1 [(16, .int .i64 ((b14 : Int) - 1))] (fun _ => by kernel_rfl) ?_
    have hn33 := own_count tmC_len (by decide) ho20
    obtain ⟨e29, he30⟩ := get_some (xs := m5) (i := ((b14 : Int) - 1).toNat) (by omega)
    obtain ⟨b31, hA32⟩ := own_addr (by decide) tmC_len ho20 he30
    refine WL.index A5 n5 c5 17 .i64 ((b14 : Int) - 1) b31 0 (((b14 : Int) - 1).toNat) 2 (by kernel_rfl) hA32 (by omega) (by omega) ((((b14 : Int) - 1).toNat) * 2) (by first | (simp; done) | omega) ?_
    refine WL.runs 1 [(18, .pointer (some ⟨b31, (((b14 : Int) - 1).toNat) * 2 + 1, none⟩))] (fun _ => by kernel_rfl) ?_
    refine WL.load 3 (.pointer (some ⟨b31, (((b14 : Int) - 1).toNat) * 2 + 1, none⟩)) (.int .i64 e29.2) 19 (by kernel_rfl) (run_load1 rfl (by simpa [Nat.add_assoc] using Rd.cell (own_rd ho20 tmC_len (by decide)) hA32 he30 1 _ rfl)) ?_
    refine WL.runs 3 [(22, .bool (decide (e29.2 > now))), (21, .bool (decide (e29.2 > now))), (20, .int .i64 now)] (fun _ => by kernel_rfl) ?_
    refine WL.done rfl ?_
    refine QX.then_normal (hK25 _ _ ?_)
    refine WC.test_at 22 (decide (e29.2 > now)) rfl (fun t34b => ?_) (fun t34b => ?_)
    · -- e29.2 > now: true
      have t34 : now < e29.2 := by have q_ := of_decide_eq_true t34b; omega
      refine WC.cond_true rfl ?_
      refine WC.seq (fun K35 hK36 => ?_)
      refine WC.region ?_
      refine WL.runs 2 [(4, .slice A7 n7 c7), (23, .slice A7 n7 c7)] (fun _ => by kernel_rfl) ?_
      refine WL.done rfl ?_
      refine QX.then_normal (hK36 _ _ ?_)
      refine WC.ret ?_
      refine QX.then_ret ?_
      refine QX.block_ret ?_
      refine QX.then_ret ?_
      refine QX.block_ret ?_
      refine (hret _ _ _ rfl ?_).1
      clear hN hret hret' hK36 hK25 hK23 hK13 hK4 hK2
      have hdn_ := FirstI.none (now := now) hfi15 (.inr ⟨_, (show _[b14 - 1]? = some _ from by have z_ := he30; rw [show ((b14 : Int) - 1).toNat = b14 - 1 from by omega] at z_; exact z_), by omega⟩)
      rw [hdn_, List.append_nil] at hout
      rw [hdn_] at hcl
      have hrf_ := rf_mk hC19 0 0 rfl rfl ho20
      have hcl2_ : canL m (dueK m now) = m5 := hcl
      rw [← hcl2_] at hrf_
      subst hout
      subst hc7_
      exact ⟨_, _, rfl, hC19.fr, hrf_, fun x_ hx_ => (List.mem_cons.1 hx_).elim (fun e_ => by subst e_; exact .inl List.mem_cons_self) (fun h_ => hC19.ownF _ (List.mem_of_getElem? (show _[0]? = some (blk (.slice A5 n5 c5)) from rfl)) x_ h_), own_base ho21 hfo, fun x_ hx_ h_ => (List.mem_cons.1 h_).elim (fun e_ => by subst e_; exact hC19.notin 1 0 rfl rfl hx_) (fun h2_ => hC19.disj 1 0 rfl rfl (by decide) x_ hx_ h2_)⟩
    · -- e29.2 > now: false
      have t34 : e29.2 ≤ now := by have q_ := of_decide_eq_false t34b; omega
      refine WC.cond_false rfl ?_
      refine WC.skip ?_
      refine QX.then_normal (hK23 _ _ ?_)
      refine WC.seq (fun K37 hK38 => ?_)
      refine WC.region ?_
      refine WL.runs 4 [(27, .pointer (some ⟨p, 0, none⟩)), (26, .pointer (some ⟨p, 0, none⟩)), (25, .pointer (some ⟨p, 0, none⟩)), (24, .slice A7 n7 c7)] (fun _ => by kernel_rfl) ?_
      refine WL.load 47 (.pointer (some ⟨p, 0, none⟩)) (.slice A5 n5 c5) 28 (by kernel_rfl) (run_ld (hC19.get 0 rfl) rfl) ?_
      refine WL.runs 1 [(29, .int .i64 ((b14 : Int) - 1))] (fun _ => by kernel_rfl) ?_
      refine WL.index A5 n5 c5 30 .i64 ((b14 : Int) - 1) b31 0 (((b14 : Int) - 1).toNat) 2 (by kernel_rfl) hA32 (by omega) (by omega) ((((b14 : Int) - 1).toNat) * 2) (by first | (simp; done) | omega) ?_
      refine WL.runs 1 [(31, .pointer (some ⟨b31, (((b14 : Int) - 1).toNat) * 2, none⟩))] (fun _ => by kernel_rfl) ?_
      refine WL.load 3 (.pointer (some ⟨b31, (((b14 : Int) - 1).toNat) * 2, none⟩)) (.int .i64 e29.1) 32 (by kernel_rfl) (run_load1 rfl (by simpa [Nat.add_assoc] using Rd.cell (own_rd ho20 tmC_len (by decide)) hA32 he30 0 _ rfl)) ?_
      refine WL.newM hC19 (fun b => .slice (some ⟨b, 0, none⟩) 1 1) (.cells #[.int .i64 e29.1] 3) 33 (fun _ => by kernel_rfl) (fun g43 w44 hb47 hF45 hC46 => ?_)
      have ho48 := own_fr ho20 hF45 (by simp)
      have ho49 := own_fr ho21 hF45 (by simp)
      obtain ⟨v50, w51, hr52, ho53, hF54, hC55, hnil56, hsub57⟩ := app_run Try.prog hC46 1 (v := .slice A7 n7 c7) rfl 22 22 3 1 8 n7 1 1 (some ⟨g43, 0, none⟩) rfl ho49 [.int .i64 e29.1] rfl (srcOk.blk 1 (hC46.get 1 rfl)) rfl (by simp only [maxLen]; omega) (by omega)
      have ho61 := own_snoc (enc := (Go.Tw.encI .i64)) (ys := ol) e29.1 ho53
      obtain ⟨A58, c59, rfl, hle60⟩ := own_form ho61
      refine WL.sem (Builtin.append_ #[22, 22] 22 #[.slice A7 n7 c7, .slice (some ⟨g43, 0, none⟩) 1 1]) 34 (.slice A58 (n7 + 1) c59) (by kernel_rfl) hr52 ?_
      have ho62 := own_fr ho48 hF54 (hC46.disj 0 1 rfl rfl (by decide))
      refine WL.runs 1 [(5, .slice A58 (n7 + 1) c59)] (fun _ => by kernel_rfl) ?_
      refine WL.done rfl ?_
      refine QX.then_normal (hK38 _ _ ?_)
      refine WC.region ?_
      refine WL.runs 4 [(38, .pointer (some ⟨p, 0, none⟩)), (37, .pointer (some ⟨p, 0, none⟩)), (36, .pointer (some ⟨p, 0, none⟩)), (35, .pointer (some ⟨p, 0, none⟩))] (fun _ => by kernel_rfl) ?_
      refine WL.load 47 (.pointer (some ⟨p, 0, none⟩)) (.slice A5 n5 c5) 39 (by kernel_rfl) (run_ld (hC55.get 0 rfl) rfl) ?_
      refine WL.runs 1 [(40, .int .i64 ((b14 : Int) - 1))] (fun _ => by kernel_rfl) ?_
      refine WL.index A5 n5 c5 41 .i64 ((b14 : Int) - 1) b31 0 (((b14 : Int) - 1).toNat) 2 (by kernel_rfl) hA32 (by omega) (by omega) ((((b14 : Int) - 1).toNat) * 2) (by first | (simp; done) | omega) ?_
      refine WL.runs 1 [(42, .pointer (some ⟨b31, (((b14 : Int) - 1).toNat) * 2, none⟩))] (fun _ => by kernel_rfl) ?_
      refine WL.load 3 (.pointer (some ⟨b31, (((b14 : Int) - 1).toNat) * 2, none⟩)) (.int .i64 e29.1) 43 (by kernel_rfl) (run_load1 rfl (by simpa [Nat.add_assoc] using Rd.cell (own_rd ho62 tmC_len (by decide)) hA32 he30 0 _ rfl)) ?_
      refine WL.newM hC55 (fun b => .slice (some ⟨b, 0, none⟩) 1 1) (.cells #[.int .i64 e29.1] 3) 44 (fun _ => by kernel_rfl) (fun g67 w68 hb71 hF69 hC70 => ?_)
      have ho72 := own_fr ho62 hF69 (by simp)
      have ho73 := own_fr ho61 hF69 (by simp)
      have hrf74 : rfAt w68 (p :: blk (.slice A5 n5 c5)) p m5 := rf_mk hC70 0 0 rfl rfl ho72
      have hC75 := hC70.toF1 0 0 rfl rfl
      refine WL.call rfl rfl rfl rfl rfl (by kernel_rfl) (RCancel_n (p :: blk (.slice A5 n5 c5)) p m5 (some ⟨g67, 0, none⟩) 1 1 [e29.1] w68 hrf74 hnd5 (by omega) (Rd.blk (hC75.get 1 rfl) (Go.Tw.encI_len _) rfl) rfl (by simp) (fun _ _ e_ _ => by cases e_; exact hC75.notin 0 1 rfl rfl)) ?_
      rintro _ w77 ⟨F80, rfl, hF76, hT79, hsub81⟩
      have hT79' : rfAt w77 F80 p (delL m5 e29.1) := hT79
      have hC78 := hC75.callF 0 rfl hF76 hsub81 (rfAt_lt hT79)
      refine ⟨_, rfl, ?_⟩
      have ho82 := own_fr ho73 hF76 (hC75.disj 1 0 rfl rfl (by decide))
      obtain ⟨A83, c84, hp85, ho86, rfl, hn87⟩ := hT79'
      have hC88 := hC78.unF1 0 rfl hp85 hn87
      refine WL.done rfl ?_
      refine QX.block_normal ?_
      refine QX.then_normal ?_
      have hC89 := hC88.pick [2] [0, 1] rfl rfl
      have hdc_ := dueK_cons hnd5 (List.mem_of_getElem? (show _[b14 - 1]? = some _ from by have z_ := he30; rw [show ((b14 : Int) - 1).toNat = b14 - 1 from by omega] at z_; exact z_)) (FirstI.min hfi15 (by omega) (show _[b14 - 1]? = some _ from by have z_ := he30; rw [show ((b14 : Int) - 1).toNat = b14 - 1 from by omega] at z_; exact z_)) (show e29.2 ≤ now from by omega)
      have hds_ := del_sub hnd5 (List.mem_of_getElem? (show _[b14 - 1]? = some _ from by have z_ := he30; rw [show ((b14 : Int) - 1).toNat = b14 - 1 from by omega] at z_; exact z_)) rfl
      refine fun a_ ha_ => hK7 _ _ _ ?_ ⟨A83, (delL m5 e29.1).length, c84, (delL m5 e29.1), A58, n7 + 1, c59, ol ++ [e29.1], rfl, rfl, hC89, ho86, ho82, delL_keys m5 _ hnd5, by rw [← hout, hdc_]; simp, by rw [hcl, hdc_]; rfl, by omega, fun x_ hx_ => (hsub57 x_ hx_).elim (hfo x_) (fun h_ => Nat.le_trans hC46.fr.size h_)⟩ a_ (ha_.weaken (sub_of ⟨rfl, rfl, rfl, trivial⟩))
      omega

end Go.Proofs.Ytkafccgbagbncaa
