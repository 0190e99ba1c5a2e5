/- Contracts of functions of the program, each proved by a walk through its code; conditions stand in the statements. -/
import Derived.Test.YtoambminolcgfaaDoorLfK
namespace Go.Proofs.YtoambminolcgfaaDoor
set_option linter.unusedSimpArgs false
set_option linter.unusedVariables false
set_option linter.unusedSectionVars false
open Go Go.RowKit Go.Tw
set_option linter.unusedVariables false
theorem freeN_lt {xs : List Lease} {vip now : Int} {n : Nat} (h : freeN xs vip now = some n) : n < 8064 := by
  unfold freeN at h
  rw [List.find?_range_eq_some] at h
  exact List.mem_range.1 h.2.1
theorem freeF_le (xs : List Lease) (vip now : Int) : 0 ≤ freeF xs vip now ∧ freeF xs vip now ≤ 65528 := by
  unfold freeF
  cases h : freeN xs vip now with
  | none => exact ⟨by decide, by decide⟩
  | some n => have := freeN_lt h; show (0 : Int) ≤ 1024 + 8 * (n : Int) ∧ (1024 + 8 * (n : Int)) ≤ 65528; omega
theorem mem_insL {xs : List Lease} {l x : Lease} (h : x ∈ insL xs l) : x ∈ xs ∨ x = l := by
  simp only [insL, List.mem_append, List.mem_cons, List.mem_filter] at h
  rcases h with h | h | h
  · exact .inl h.1
  · exact .inr h
  · exact .inl h.1
theorem len_insL (xs : List Lease) (l : Lease) : (insL xs l).length ≤ 2 * xs.length + 1 := by
  simp only [insL, List.length_append, List.length_cons]
  have h1 := List.length_filter_le (ltL · l) xs
  have h2 := List.length_filter_le (ltL l ·) xs
  omega
theorem grX_ok {xs : List Lease} {vip dip now : Int} (hwf : ∀ l ∈ xs, okL l) (hvip : 0 ≤ vip ∧ vip ≤ 4294967295) (hdip : 0 ≤ dip ∧ dip ≤ 4294967295) : ∀ l ∈ grX xs vip dip now, okL l := by
  intro l hl
  unfold grX at hl
  split at hl
  · rename_i h
    obtain ⟨_, _, h0, h1, _, _⟩ := grE_zero h
    rcases mem_insL hl with h2 | rfl
    · exact hwf l h2
    · unfold grL
      rw [if_pos h]
      have := freeF_le xs vip now
      simp only [okL]; omega
  · simp at hl
theorem grX_len (xs : List Lease) (vip dip now : Int) : (grX xs vip dip now).length ≤ 2 * xs.length + 1 := by
  unfold grX
  split
  · exact len_insL _ _
  · simp
theorem ins_other {l : Lease} {q : Lease → Bool} : ∀ {xs : List Lease}, sortedL xs → (∀ x ∈ xs, q x = true → x.vip ≠ l.vip) → (xs.filter (ltL · l)).filter q ++ (xs.filter (ltL l ·)).filter q = xs.filter q
  | [], _, _ => by simp
  | x :: r, hs, hq => by
    obtain ⟨h1, h2⟩ := List.pairwise_cons.1 hs
    have ih := ins_other (l := l) (q := q) h2 (fun y hy => hq y (by simp [hy]))
    cases hc : ltL x l
    · have hnone : ∀ y ∈ r, ltL y l = false := fun y hy => by
        cases hd : ltL y l
        · rfl
        · rw [ltL_trans (h1 y hy) hd] at hc; cases hc
      have e1 : (x :: r).filter (ltL · l) = [] := by
        rw [List.filter_eq_nil_iff]
        intro y hy
        rcases List.mem_cons.1 hy with rfl | hy
        · simp [hc]
        · simp [hnone y hy]
      rw [e1]
      simp only [List.filter_nil, List.nil_append, List.filter_filter]
      apply List.filter_congr
      intro y hy
      cases hqy : q y
      · simp
      · have hv := hq y hy hqy
        have hlt : ltL y l = false := by
          rcases List.mem_cons.1 hy with rfl | hy'
          · exact hc
          · exact hnone y hy'
        simp [ltL_tri hlt (fun h => hv h.1)]
    · have hx : ltL l x = false := ltL_asym hc
      have e1 : (x :: r).filter (ltL · l) = x :: r.filter (ltL · l) := List.filter_cons_of_pos (by simpa using hc)
      have e2 : (x :: r).filter (ltL l ·) = r.filter (ltL l ·) := List.filter_cons_of_neg (by simp [hx])
      rw [e1, e2]
      cases hqx : q x
      · rw [List.filter_cons_of_neg (by simp [hqx]), List.filter_cons_of_neg (by simp [hqx])]; exact ih
      · rw [List.filter_cons_of_pos hqx, List.filter_cons_of_pos hqx, List.cons_append, ih]
theorem find_other {xs : List Lease} {vip dip now other port n : Int} (h : grE xs vip dip now = 0) (hne : ¬ other = vip) : (grX xs vip dip now).filter (findP other port n) = xs.filter (findP other port n) := by
  have hs := checkL_sorted (grE_zero h).1
  have hl : (grL xs vip dip now).vip = vip := by unfold grL; rw [if_pos h]
  unfold grX
  rw [if_pos h, insL, List.filter_append, List.filter_cons_of_neg (by simp only [findP, hl]; simp; intro e; exact absurd e.symm hne)]
  refine ins_other hs fun x _ hx => ?_
  simp only [findP, Bool.and_eq_true, decide_eq_true_eq] at hx
  rw [hl, hx.1.1.1]; exact hne
theorem LeaseApart_ct (A : Option Addr) (c : Nat) (xs : List Lease) (vip dip first now : Int) (other : Int) (w : World) (hr : Rd w 4 encL A xs) (hwf : ∀ l ∈ xs, okL l) (hvip : 0 ≤ vip ∧ vip ≤ 4294967295) (hdip : 0 ≤ dip ∧ dip ≤ 4294967295) (hfirst : -9223372036854775808 ≤ first ∧ first ≤ 9223372036854775807) (hnow : -9223372036854775808 ≤ now ∧ now ≤ 9223372036854775807) (hoth : 0 ≤ other ∧ other ≤ 4294967295) (hg : Rd w 1 (encI .u8) (some ⟨0, 0, none⟩) dbTab) : Calls Tryd.prog 4 #[.agg #[.slice A xs.length c, .int .u32 vip, .int .u32 dip, .int .i64 first, .int .i64 now], .int .u32 other] w fun e w' => e = .returned (.bool true) ∧ Fr w w' [] := by
  refine enterD (n := 74) Tryd.func4 rfl rfl (Nat.le_of_ble_eq_true rfl) ?_
  intro Q0 hN hret hret'
  have hC := Cx.start w
  refine WC.seq (fun K1 hK2 => ?_)
  refine WC.region ?_
  refine WL.newM hC (fun b => .pointer (some ⟨b, 0, none⟩)) (.cells #[.slice A xs.length c, .int .u32 vip, .int .u32 dip, .int .i64 first, .int .i64 now] 37) 2 (fun _ => by kernel_rfl) (fun g3 w4 hb7 hF5 hC6 => ?_)
  refine WL.runs 1 [(4, .bool false)] (fun _ => by kernel_rfl) ?_
  refine WL.done rfl ?_
  refine QX.then_normal (hK2 _ _ ?_)
  refine WC.seq (fun K8 hK9 => ?_)
  refine WC.seq (fun K10 hK11 => ?_)
  refine WC.region ?_
  refine WL.call rfl rfl rfl rfl rfl (by kernel_rfl) (alive_ct w4 (Rd.fr hg hC6.fr)) ?_
  rintro _ w13 ⟨rfl, hF12⟩
  refine ⟨_, rfl, ?_⟩
  have hC14 := hC6.call hF12
  refine WL.runs 1 [(14, .bool false)] (fun _ => by kernel_rfl) ?_
  refine WL.done rfl ?_
  refine QX.then_normal (hK11 _ _ ?_)
  refine WC.cond_false rfl ?_
  refine WC.skip ?_
  refine QX.then_normal (hK9 _ _ ?_)
  refine WC.seq (fun K15 hK16 => ?_)
  refine WC.seq (fun K17 hK18 => ?_)
  refine WC.region ?_
  refine WL.runs 1 [(15, .pointer (some ⟨g3, 0, none⟩))] (fun _ => by kernel_rfl) ?_
  refine WL.load 25 (.pointer (some ⟨g3, 0, none⟩)) (.slice A xs.length c) 16 (by kernel_rfl) (run_ld (hC14.get 0 rfl) rfl) ?_
  refine WL.runs 3 [(19, .bool (decide ((xs.length : Int) > 150))), (18, .bool (decide ((xs.length : Int) > 150))), (17, .int .i64 (xs.length : Int))] (fun _ => by kernel_rfl) ?_
  refine WL.test_at 19 (decide ((xs.length : Int) > 150)) rfl (fun t19b => ?_) (fun t19b => ?_)
  · -- (xs.length : Int) > 150: true
    have t19 : (150 : Int) < (xs.length : Int) := by have q_ := of_decide_eq_true t19b; omega
    refine WL.runs 5 [(24, .bool true), (23, undef), (22, undef), (21, undef), (20, undef)] (fun _ => by kernel_rfl) ?_
    refine WL.done rfl ?_
    refine QX.then_normal (hK18 _ _ ?_)
    refine WC.cond_true rfl ?_
    refine WC.seq (fun K20 hK21 => ?_)
    refine WC.region ?_
    refine WL.runs 1 [(4, .bool true)] (fun _ => by kernel_rfl) ?_
    refine WL.done rfl ?_
    refine QX.then_normal (hK21 _ _ ?_)
    refine WC.ret ?_
    refine QX.then_ret ?_
    refine (hret _ _ _ rfl ?_).1
    clear hN hret hret' hK21 hK18 hK16 hK11 hK9 hK2
    exact ⟨rfl, hC14.fr⟩
  · -- (xs.length : Int) > 150: false
    have t19 : (xs.length : Int) ≤ 150 := by have q_ := of_decide_eq_false t19b; omega
    refine WL.runs 2 [(21, .pointer (some ⟨g3, 1, none⟩)), (20, .int .u32 other)] (fun _ => by kernel_rfl) ?_
    refine WL.load 23 (.pointer (some ⟨g3, 1, none⟩)) (.int .u32 vip) 22 (by kernel_rfl) (run_ld (hC14.get 0 rfl) rfl) ?_
    refine WL.runs 2 [(24, .bool (other == vip)), (23, .bool (other == vip))] (fun _ => by kernel_rfl) ?_
    refine WL.done rfl ?_
    refine QX.then_normal (hK18 _ _ ?_)
    refine WC.test_at 24 (other == vip) rfl (fun t22b => ?_) (fun t22b => ?_)
    · -- other = vip: true
      have t22 : other = vip := by simpa using t22b
      refine WC.cond_true rfl ?_
      refine WC.seq (fun K23 hK24 => ?_)
      refine WC.region ?_
      refine WL.runs 1 [(4, .bool true)] (fun _ => by kernel_rfl) ?_
      refine WL.done rfl ?_
      refine QX.then_normal (hK24 _ _ ?_)
      refine WC.ret ?_
      refine QX.then_ret ?_
      refine (hret _ _ _ rfl ?_).1
      clear hN hret hret' hK24 hK18 hK16 hK11 hK9 hK2
      exact ⟨rfl, hC14.fr⟩
    · -- other = vip: false
      have t22 : ¬ (other = vip) := by simpa using t22b
      refine WC.cond_false rfl ?_
      refine WC.skip ?_
      refine QX.then_normal (hK16 _ _ ?_)
      refine WC.seq (fun K25 hK26 => ?_)
      refine WC.region ?_
      refine WL.runs 1 [(26, .pointer (some ⟨g3, 0, none⟩))] (fun _ => by kernel_rfl) ?_
      refine WL.load 25 (.pointer (some ⟨g3, 0, none⟩)) (.slice A xs.length c) 27 (by kernel_rfl) (run_ld (hC14.get 0 rfl) rfl) ?_
      refine WL.runs 1 [(28, .pointer (some ⟨g3, 1, none⟩))] (fun _ => by kernel_rfl) ?_
      refine WL.load 23 (.pointer (some ⟨g3, 1, none⟩)) (.int .u32 vip) 29 (by kernel_rfl) (run_ld (hC14.get 0 rfl) rfl) ?_
      refine WL.runs 1 [(30, .pointer (some ⟨g3, 2, none⟩))] (fun _ => by kernel_rfl) ?_
      refine WL.load 23 (.pointer (some ⟨g3, 2, none⟩)) (.int .u32 dip) 31 (by kernel_rfl) (run_ld (hC14.get 0 rfl) rfl) ?_
      refine WL.runs 1 [(32, .pointer (some ⟨g3, 4, none⟩))] (fun _ => by kernel_rfl) ?_
      refine WL.load 3 (.pointer (some ⟨g3, 4, none⟩)) (.int .i64 now) 33 (by kernel_rfl) (run_ld (hC14.get 0 rfl) rfl) ?_
      refine WL.call rfl rfl rfl rfl rfl (by kernel_rfl) (Grant_ct A c xs vip dip now w13 (Rd.fr hr hC14.fr) hwf (by first | omega | simp) (by omega) (by omega) (Rd.fr hg hC14.fr)) ?_
      rintro _ w29 ⟨v_, rfl, hF28, ho27⟩
      have hC30 := hC14.callN hF28 (own_ge ho27) (own_lt ho27)
      obtain ⟨A31, c32, rfl, hle33⟩ := own_form ho27
      have ho35 := own_base (b' := 0) ho27 (fun _ _ => Nat.zero_le _)
      refine ⟨_, rfl, ?_⟩
      refine WL.runs 4 [(37, errV 32 (grE xs vip dip now)), (36, .agg #[.int .u32 ((grL xs vip dip now).vip), .int .i64 ((grL xs vip dip now).first), .int .u32 ((grL xs vip dip now).dip), .int .i64 ((grL xs vip dip now).exp)]), (35, .slice A31 ((grX xs vip dip now).length) c32), (25, .tuple #[.slice A31 ((grX xs vip dip now).length) c32, .agg #[.int .u32 ((grL xs vip dip now).vip), .int .i64 ((grL xs vip dip now).first), .int .u32 ((grL xs vip dip now).dip), .int .i64 ((grL xs vip dip now).exp)], errV 32 (grE xs vip dip now)])] (fun _ => by kernel_rfl) ?_
      refine WL.newM hC30 (fun b => .pointer (some ⟨b, 0, none⟩)) (.cells #[.int .u32 0, .int .i64 0, .int .u32 0, .int .i64 0] 27) 6 (fun _ => by kernel_rfl) (fun g37 w38 hb41 hF39 hC40 => ?_)
      have ho42 := own_fr ho35 hF39 (by simp)
      refine WL.runs 1 [(5, .slice A31 ((grX xs vip dip now).length) c32)] (fun _ => by kernel_rfl) ?_
      refine WL.storeM hC40 1 27 g37 0 (.agg #[.int .u32 ((grL xs vip dip now).vip), .int .i64 ((grL xs vip dip now).first), .int .u32 ((grL xs vip dip now).dip), .int .i64 ((grL xs vip dip now).exp)]) (by kernel_rfl) rfl rfl (fun w43 hF45 hC46 => ?_)
      have ho47 := own_fr ho42 hF45 (hC40.apartM 0 1 rfl rfl)
      refine WL.runs 1 [(7, errV 32 (grE xs vip dip now))] (fun _ => by kernel_rfl) ?_
      refine WL.done rfl ?_
      refine QX.then_normal (hK26 _ _ ?_)
      refine WC.seq (fun K48 hK49 => ?_)
      refine WC.seq (fun K50 hK51 => ?_)
      refine WC.region ?_
      refine WL.runs 1 [(38, errV 32 (grE xs vip dip now))] (fun _ => by kernel_rfl) ?_
      have hr52 : ∀ w_, Sem.run Tryd.prog (do eqGuard .neq 29 (Operand.tmp 38) (Operand.const (.nilIface)) (errV 32 (grE xs vip dip now)) (.nilIface); binOp .neq 29 (errV 32 (grE xs vip dip now)) (.nilIface)) w_ = .ok (.bool (!(decide (grE xs vip dip now = 0)))) w_ := fun w_ => (err_neq _ (grE xs vip dip now) (decide (grE xs vip dip now = 0)) (by rfl) _)
      refine WL.sem (do eqGuard .neq 29 (Operand.tmp 38) (Operand.const (.nilIface)) (errV 32 (grE xs vip dip now)) (.nilIface); binOp .neq 29 (errV 32 (grE xs vip dip now)) (.nilIface)) 39 (.bool (!(decide (grE xs vip dip now = 0)))) (by kernel_rfl) (hr52 _) ?_
      refine WL.done rfl ?_
      refine QX.then_normal (hK51 _ _ ?_)
      refine WC.test_at 39 (!(decide (grE xs vip dip now = 0))) rfl (fun t53b => ?_) (fun t53b => ?_)
      · -- (!(decide (grE xs vip dip now = 0))) = true: true
        have t53 : (decide (grE xs vip dip now = 0)) = false := by first | (simpa only [Bool.not_eq_true', Bool.not_eq_false'] using t53b) | simpa using t53b
        refine WC.cond_true rfl ?_
        refine WC.seq (fun K54 hK55 => ?_)
        refine WC.region ?_
        refine WL.runs 4 [(4, .bool (((grX xs vip dip now).length : Int) == 0)), (42, .bool (((grX xs vip dip now).length : Int) == 0)), (41, .int .i64 ((grX xs vip dip now).length : Int)), (40, .slice A31 ((grX xs vip dip now).length) c32)] (fun _ => by kernel_rfl) ?_
        refine WL.done rfl ?_
        refine QX.then_normal (hK55 _ _ ?_)
        refine WC.ret ?_
        refine QX.then_ret ?_
        refine (hret _ _ _ rfl ?_).1
        clear hN hret hret' hK55 hK51 hK49 hK26 hK18 hK16 hK11 hK9 hK2
        have hE : ¬ grE xs vip dip now = 0 := by simpa using t53b
        exact ⟨congrArg (fun b_ => Ending.returned (Value.bool b_)) (show (((grX xs vip dip now).length : Int) == 0) = true from by simp [grX, hE]), hC46.fr⟩
      · -- (!(decide (grE xs vip dip now = 0))) = true: false
        have t53 : (decide (grE xs vip dip now = 0)) = true := by first | (simpa only [Bool.not_eq_true', Bool.not_eq_false'] using t53b) | simpa using t53b
        refine WC.cond_false rfl ?_
        refine WC.skip ?_
        refine QX.then_normal (hK49 _ _ ?_)
        refine WC.seq (fun K56 hK57 => ?_)
        refine WC.seq (fun K58 hK59 => ?_)
        refine WC.region ?_
        refine WL.runs 1 [(8, .int .i64 1024)] (fun _ => by kernel_rfl) ?_
        refine WL.done rfl ?_
        refine QX.then_normal (hK59 _ _ ?_)
        refine WC.block ?_
        have hE : grE xs vip dip now = 0 := by simpa using t53
        have hne_ : ¬ other = vip := by assumption
        have hgl_ := grX_len xs vip dip now
        have hgo_ := grX_ok (now := now) hwf hvip hdip
        refine WC.loop (fun m_ E_ w_ => ∃ (f : Int), m_ = (1200 - f).toNat ∧ E_ = [(0, .agg #[.slice A xs.length c, .int .u32 vip, .int .u32 dip, .int .i64 first, .int .i64 now]), (1, .int .u32 other), (2, .pointer (some ⟨g3, 0, none⟩)), (5, .slice A31 ((grX xs vip dip now).length) c32), (6, .pointer (some ⟨g37, 0, none⟩)), (7, errV 32 (grE xs vip dip now)), (8, .int .i64 f), (13, .bool true), (14, .bool false), (15, .pointer (some ⟨g3, 0, none⟩)), (16, .slice A xs.length c), (17, .int .i64 (xs.length : Int)), (18, .bool (decide ((xs.length : Int) > 150))), (19, .bool false), (20, .int .u32 other), (21, .pointer (some ⟨g3, 1, none⟩)), (22, .int .u32 vip), (23, .bool (other == vip)), (24, .bool false), (25, .tuple #[.slice A31 ((grX xs vip dip now).length) c32, .agg #[.int .u32 ((grL xs vip dip now).vip), .int .i64 ((grL xs vip dip now).first), .int .u32 ((grL xs vip dip now).dip), .int .i64 ((grL xs vip dip now).exp)], errV 32 (grE xs vip dip now)]), (26, .pointer (some ⟨g3, 0, none⟩)), (27, .slice A xs.length c), (28, .pointer (some ⟨g3, 1, none⟩)), (29, .int .u32 vip), (30, .pointer (some ⟨g3, 2, none⟩)), (31, .int .u32 dip), (32, .pointer (some ⟨g3, 4, none⟩)), (33, .int .i64 now), (34, .tuple #[.slice A31 ((grX xs vip dip now).length) c32, .agg #[.int .u32 ((grL xs vip dip now).vip), .int .i64 ((grL xs vip dip now).first), .int .u32 ((grL xs vip dip now).dip), .int .i64 ((grL xs vip dip now).exp)], errV 32 (grE xs vip dip now)]), (35, .slice A31 ((grX xs vip dip now).length) c32), (36, .agg #[.int .u32 ((grL xs vip dip now).vip), .int .i64 ((grL xs vip dip now).first), .int .u32 ((grL xs vip dip now).dip), .int .i64 ((grL xs vip dip now).exp)]), (37, errV 32 (grE xs vip dip now)), (38, errV 32 (grE xs vip dip now)), (39, .bool false)] ∧ Cx w [] w_ [(g3, .cells #[.slice A xs.length c, .int .u32 vip, .int .u32 dip, .int .i64 first, .int .i64 now] 37), (g37, .cells #[.int .u32 ((grL xs vip dip now).vip), .int .i64 ((grL xs vip dip now).first), .int .u32 ((grL xs vip dip now).dip), .int .i64 ((grL xs vip dip now).exp)] 27)] [blk (.slice A31 ((grX xs vip dip now).length) c32)] ∧ World.ownsRow w_ 0 27 4 (.slice A31 ((grX xs vip dip now).length) c32) ((grX xs vip dip now).length) ((grX xs vip dip now).flatMap encL) ∧ (1024 ≤ f ∧ f ≤ 1200)) ⟨_, _, ⟨1024, rfl, rfl, hC46, ho47, by decide, by decide⟩, sub_of ⟨rfl, rfl, rfl, rfl, rfl, rfl, rfl, rfl, rfl, rfl, rfl, rfl, rfl, rfl, rfl, rfl, rfl, rfl, rfl, rfl, rfl, rfl, rfl, rfl, rfl, rfl, rfl, rfl, rfl, rfl, rfl, rfl, rfl, rfl, trivial⟩⟩ (fun m63 E_ w64 K60 hK61 hI62 => ?_)
        obtain ⟨f, rfl, rfl, hC65, row36_m63, hf0, hf1⟩ := hI62
        refine WC.seq (fun K66 hK67 => ?_)
        refine WC.seq (fun K68 hK69 => ?_)
        refine WC.region ?_
        refine WL.runs 2 [(44, .bool (decide (f < 1200))), (43, .int .i64 f)] (fun _ => by kernel_rfl) ?_
        refine WL.done rfl ?_
        refine QX.then_normal (hK69 _ _ ?_)
        refine WC.test_at 44 (decide (f < 1200)) rfl (fun t70b => ?_) (fun t70b => ?_)
        · -- f < 1200: true
          have t70 : f < 1200 := by have q_ := of_decide_eq_true t70b; omega
          refine WC.cond_true rfl ?_
          refine WC.skip ?_
          refine QX.then_normal (hK67 _ _ ?_)
          refine WC.seq (fun K71 hK72 => ?_)
          refine WC.block ?_
          refine WC.seq (fun K73 hK74 => ?_)
          refine WC.region ?_
          refine WL.runs 1 [(48, .pointer (some ⟨g3, 0, none⟩))] (fun _ => by kernel_rfl) ?_
          refine WL.load 25 (.pointer (some ⟨g3, 0, none⟩)) (.slice A xs.length c) 49 (by kernel_rfl) (run_ld (hC65.get 0 rfl) rfl) ?_
          refine WL.runs 3 [(52, .pointer (some ⟨g3, 4, none⟩)), (51, .int .i64 f), (50, .int .u32 other)] (fun _ => by kernel_rfl) ?_
          refine WL.load 3 (.pointer (some ⟨g3, 4, none⟩)) (.int .i64 now) 53 (by kernel_rfl) (run_ld (hC65.get 0 rfl) rfl) ?_
          refine WL.call rfl rfl rfl rfl rfl (by kernel_rfl) (Find_ct A c xs other f now w64 (Rd.fr hr hC65.fr) hwf (by first | omega | simp) (by omega)) ?_
          rintro _ w76 ⟨rfl, hF75⟩
          refine ⟨_, rfl, ?_⟩
          have hC77 := hC65.call hF75
          have ho78 := own_fr row36_m63 hF75 (by simp)
          refine WL.runs 3 [(56, .bool (hasL (xs.filter (findP other f now)))), (55, .agg #[.int .u32 ((headL (xs.filter (findP other f now))).vip), .int .i64 ((headL (xs.filter (findP other f now))).first), .int .u32 ((headL (xs.filter (findP other f now))).dip), .int .i64 ((headL (xs.filter (findP other f now))).exp)]), (47, .tuple #[.agg #[.int .u32 ((headL (xs.filter (findP other f now))).vip), .int .i64 ((headL (xs.filter (findP other f now))).first), .int .u32 ((headL (xs.filter (findP other f now))).dip), .int .i64 ((headL (xs.filter (findP other f now))).exp)], .bool (hasL (xs.filter (findP other f now)))])] (fun _ => by kernel_rfl) ?_
          refine WL.newM hC77 (fun b => .pointer (some ⟨b, 0, none⟩)) (.cells #[.int .u32 0, .int .i64 0, .int .u32 0, .int .i64 0] 27) 9 (fun _ => by kernel_rfl) (fun g79 w80 hb83 hF81 hC82 => ?_)
          have ho84 := own_fr ho78 hF81 (by simp)
          refine WL.storeM hC82 2 27 g79 0 (.agg #[.int .u32 ((headL (xs.filter (findP other f now))).vip), .int .i64 ((headL (xs.filter (findP other f now))).first), .int .u32 ((headL (xs.filter (findP other f now))).dip), .int .i64 ((headL (xs.filter (findP other f now))).exp)]) (by kernel_rfl) rfl rfl (fun w85 hF87 hC88 => ?_)
          have ho89 := own_fr ho84 hF87 (hC82.apartM 0 2 rfl rfl)
          refine WL.runs 1 [(10, .bool (hasL (xs.filter (findP other f now))))] (fun _ => by kernel_rfl) ?_
          refine WL.done rfl ?_
          refine QX.then_normal (hK74 _ _ ?_)
          refine WC.seq (fun K90 hK91 => ?_)
          refine WC.region ?_
          refine WL.runs 4 [(61, .pointer (some ⟨g3, 4, none⟩)), (60, .int .i64 f), (59, .int .u32 other), (58, .slice A31 ((grX xs vip dip now).length) c32)] (fun _ => by kernel_rfl) ?_
          refine WL.load 3 (.pointer (some ⟨g3, 4, none⟩)) (.int .i64 now) 62 (by kernel_rfl) (run_ld (hC88.get 0 rfl) rfl) ?_
          refine WL.call rfl rfl rfl rfl rfl (by kernel_rfl) (Find_ct A31 c32 (grX xs vip dip now) other f now w85 (own_rd ho89 encL_len (by decide)) hgo_ (by first | omega | simp) (by omega)) ?_
          rintro _ w93 ⟨rfl, hF92⟩
          refine ⟨_, rfl, ?_⟩
          have hC94 := hC88.call hF92
          have ho95 := own_fr ho89 hF92 (by simp)
          refine WL.runs 3 [(65, .bool (hasL ((grX xs vip dip now).filter (findP other f now)))), (64, .agg #[.int .u32 ((headL ((grX xs vip dip now).filter (findP other f now))).vip), .int .i64 ((headL ((grX xs vip dip now).filter (findP other f now))).first), .int .u32 ((headL ((grX xs vip dip now).filter (findP other f now))).dip), .int .i64 ((headL ((grX xs vip dip now).filter (findP other f now))).exp)]), (57, .tuple #[.agg #[.int .u32 ((headL ((grX xs vip dip now).filter (findP other f now))).vip), .int .i64 ((headL ((grX xs vip dip now).filter (findP other f now))).first), .int .u32 ((headL ((grX xs vip dip now).filter (findP other f now))).dip), .int .i64 ((headL ((grX xs vip dip now).filter (findP other f now))).exp)], .bool (hasL ((grX xs vip dip now).filter (findP other f now)))])] (fun _ => by kernel_rfl) ?_
          refine WL.newM hC94 (fun b => .pointer (some ⟨b, 0, none⟩)) (.cells #[.int .u32 0, .int .i64 0, .int .u32 0, .int .i64 0] 27) 11 (fun _ => by kernel_rfl) (fun g96 w97 hb100 hF98 hC99 => ?_)
          have ho101 := own_fr ho95 hF98 (by simp)
          refine WL.storeM hC99 3 27 g96 0 (.agg #[.int .u32 ((headL ((grX xs vip dip now).filter (findP other f now))).vip), .int .i64 ((headL ((grX xs vip dip now).filter (findP other f now))).first), .int .u32 ((headL ((grX xs vip dip now).filter (findP other f now))).dip), .int .i64 ((headL ((grX xs vip dip now).filter (findP other f now))).exp)]) (by kernel_rfl) rfl rfl (fun w102 hF104 hC105 => ?_)
          have ho106 := own_fr ho101 hF104 (hC99.apartM 0 3 rfl rfl)
          refine WL.runs 1 [(12, .bool (hasL ((grX xs vip dip now).filter (findP other f now))))] (fun _ => by kernel_rfl) ?_
          refine WL.done rfl ?_
          refine QX.then_normal (hK91 _ _ ?_)
          refine WC.seq (fun K107 hK108 => ?_)
          refine WC.region ?_
          refine WL.load 27 (.pointer (some ⟨g79, 0, none⟩)) (.agg #[.int .u32 ((headL (xs.filter (findP other f now))).vip), .int .i64 ((headL (xs.filter (findP other f now))).first), .int .u32 ((headL (xs.filter (findP other f now))).dip), .int .i64 ((headL (xs.filter (findP other f now))).exp)]) 66 (by kernel_rfl) (run_ld (hC105.get 2 rfl) rfl) ?_
          refine WL.load 27 (.pointer (some ⟨g96, 0, none⟩)) (.agg #[.int .u32 ((headL ((grX xs vip dip now).filter (findP other f now))).vip), .int .i64 ((headL ((grX xs vip dip now).filter (findP other f now))).first), .int .u32 ((headL ((grX xs vip dip now).filter (findP other f now))).dip), .int .i64 ((headL ((grX xs vip dip now).filter (findP other f now))).exp)]) 67 (by kernel_rfl) (run_ld (hC105.get 3 rfl) rfl) ?_
          have hr109 : ∀ w_, Sem.run Tryd.prog (do eqGuard .neq 27 (Operand.tmp 66) (Operand.tmp 67) (.agg #[.int .u32 ((headL (xs.filter (findP other f now))).vip), .int .i64 ((headL (xs.filter (findP other f now))).first), .int .u32 ((headL (xs.filter (findP other f now))).dip), .int .i64 ((headL (xs.filter (findP other f now))).exp)]) (.agg #[.int .u32 ((headL ((grX xs vip dip now).filter (findP other f now))).vip), .int .i64 ((headL ((grX xs vip dip now).filter (findP other f now))).first), .int .u32 ((headL ((grX xs vip dip now).filter (findP other f now))).dip), .int .i64 ((headL ((grX xs vip dip now).filter (findP other f now))).exp)]); binOp .neq 27 (.agg #[.int .u32 ((headL (xs.filter (findP other f now))).vip), .int .i64 ((headL (xs.filter (findP other f now))).first), .int .u32 ((headL (xs.filter (findP other f now))).dip), .int .i64 ((headL (xs.filter (findP other f now))).exp)]) (.agg #[.int .u32 ((headL ((grX xs vip dip now).filter (findP other f now))).vip), .int .i64 ((headL ((grX xs vip dip now).filter (findP other f now))).first), .int .u32 ((headL ((grX xs vip dip now).filter (findP other f now))).dip), .int .i64 ((headL ((grX xs vip dip now).filter (findP other f now))).exp)])) w_ = .ok (.bool (!(((headL (xs.filter (findP other f now))).vip) == ((headL ((grX xs vip dip now).filter (findP other f now))).vip) && (((headL (xs.filter (findP other f now))).first) == ((headL ((grX xs vip dip now).filter (findP other f now))).first) && (((headL (xs.filter (findP other f now))).dip) == ((headL ((grX xs vip dip now).filter (findP other f now))).dip) && (((headL (xs.filter (findP other f now))).exp) == ((headL ((grX xs vip dip now).filter (findP other f now))).exp) && true)))))) w_ := fun w_ => (run_neq_S (by kernel_rfl))
          refine WL.sem (do eqGuard .neq 27 (Operand.tmp 66) (Operand.tmp 67) (.agg #[.int .u32 ((headL (xs.filter (findP other f now))).vip), .int .i64 ((headL (xs.filter (findP other f now))).first), .int .u32 ((headL (xs.filter (findP other f now))).dip), .int .i64 ((headL (xs.filter (findP other f now))).exp)]) (.agg #[.int .u32 ((headL ((grX xs vip dip now).filter (findP other f now))).vip), .int .i64 ((headL ((grX xs vip dip now).filter (findP other f now))).first), .int .u32 ((headL ((grX xs vip dip now).filter (findP other f now))).dip), .int .i64 ((headL ((grX xs vip dip now).filter (findP other f now))).exp)]); binOp .neq 27 (.agg #[.int .u32 ((headL (xs.filter (findP other f now))).vip), .int .i64 ((headL (xs.filter (findP other f now))).first), .int .u32 ((headL (xs.filter (findP other f now))).dip), .int .i64 ((headL (xs.filter (findP other f now))).exp)]) (.agg #[.int .u32 ((headL ((grX xs vip dip now).filter (findP other f now))).vip), .int .i64 ((headL ((grX xs vip dip now).filter (findP other f now))).first), .int .u32 ((headL ((grX xs vip dip now).filter (findP other f now))).dip), .int .i64 ((headL ((grX xs vip dip now).filter (findP other f now))).exp)])) 68 (.bool (!(((headL (xs.filter (findP other f now))).vip) == ((headL ((grX xs vip dip now).filter (findP other f now))).vip) && (((headL (xs.filter (findP other f now))).first) == ((headL ((grX xs vip dip now).filter (findP other f now))).first) && (((headL (xs.filter (findP other f now))).dip) == ((headL ((grX xs vip dip now).filter (findP other f now))).dip) && (((headL (xs.filter (findP other f now))).exp) == ((headL ((grX xs vip dip now).filter (findP other f now))).exp) && true)))))) (by kernel_rfl) (hr109 _) ?_
          refine WL.runs 1 [(69, .bool (!(((headL (xs.filter (findP other f now))).vip) == ((headL ((grX xs vip dip now).filter (findP other f now))).vip) && (((headL (xs.filter (findP other f now))).first) == ((headL ((grX xs vip dip now).filter (findP other f now))).first) && (((headL (xs.filter (findP other f now))).dip) == ((headL ((grX xs vip dip now).filter (findP other f now))).dip) && (((headL (xs.filter (findP other f now))).exp) == ((headL ((grX xs vip dip now).filter (findP other f now))).exp) && true))))))] (fun _ => by kernel_rfl) ?_
          refine WL.know 69 (.bool (!(((headL (xs.filter (findP other f now))).vip) == ((headL ((grX xs vip dip now).filter (findP other f now))).vip) && (((headL (xs.filter (findP other f now))).first) == ((headL ((grX xs vip dip now).filter (findP other f now))).first) && (((headL (xs.filter (findP other f now))).dip) == ((headL ((grX xs vip dip now).filter (findP other f now))).dip) && (((headL (xs.filter (findP other f now))).exp) == ((headL ((grX xs vip dip now).filter (findP other f now))).exp) && true)))))) (.bool false) rfl (congrArg Value.bool (by rw [find_other hE hne_]; simp)) ?_
          refine WL.runs 4 [(73, .bool ((hasL (xs.filter (findP other f now))) != (hasL ((grX xs vip dip now).filter (findP other f now))))), (72, .bool ((hasL (xs.filter (findP other f now))) != (hasL ((grX xs vip dip now).filter (findP other f now))))), (71, .bool (hasL ((grX xs vip dip now).filter (findP other f now)))), (70, .bool (hasL (xs.filter (findP other f now))))] (fun _ => by kernel_rfl) ?_
          refine WL.done rfl ?_
          refine QX.then_normal (hK108 _ _ ?_)
          refine WC.know 73 (.bool ((hasL (xs.filter (findP other f now))) != (hasL ((grX xs vip dip now).filter (findP other f now))))) (.bool false) rfl (congrArg Value.bool (by rw [find_other hE hne_]; simp)) ?_
          refine WC.cond_false rfl ?_
          refine WC.skip ?_
          refine QX.block_normal ?_
          refine QX.then_normal (hK72 _ _ ?_)
          refine WC.region ?_
          refine WL.runs 2 [(46, .int .i64 (IntKind.i64.wrap (f + 1))), (45, .int .i64 f)] (fun _ => by kernel_rfl) ?_
          refine WL.recast (show (.int .i64 (IntKind.i64.wrap (f + 1)) : Value) = .int .i64 (f + 1) from by rw [wrap_in_i64 (f + 1) (by omega) (by omega)]) ?_
          refine WL.runs 1 [(8, .int .i64 (f + 1))] (fun _ => by kernel_rfl) ?_
          refine WL.done rfl ?_
          refine QX.then_normal ?_
          have hC110 := hC105.pick [0, 1] [0] rfl rfl
          refine fun a_ ha_ => hK61 _ _ _ ?_ ⟨f + 1, rfl, rfl, hC110, ho106, by omega, by omega⟩ a_ (ha_.weaken (sub_of ⟨rfl, rfl, rfl, rfl, rfl, rfl, rfl, rfl, rfl, rfl, rfl, rfl, rfl, rfl, rfl, rfl, rfl, rfl, rfl, rfl, rfl, rfl, rfl, rfl, rfl, rfl, rfl, rfl, rfl, rfl, rfl, rfl, rfl, rfl, trivial⟩))
          omega
        · -- f < 1200: false
          have t70 : (1200 : Int) ≤ f := by have q_ := of_decide_eq_false t70b; omega
          refine WC.cond_false rfl ?_
          refine WC.exit ?_
          refine QX.then_exit ?_
          refine QX.then_exit ?_
          refine QX.block_hit ?_
          refine QX.then_normal (hK57 _ _ ?_)
          refine WC.seq (fun K111 hK112 => ?_)
          refine WC.region ?_
          refine WL.runs 1 [(4, .bool true)] (fun _ => by kernel_rfl) ?_
          refine WL.done rfl ?_
          refine QX.then_normal (hK112 _ _ ?_)
          refine WC.ret ?_
          refine (hret _ _ _ rfl ?_).1
          clear hN hret hret' hK112 hK69 hK67 hK59 hK57 hK51 hK49 hK26 hK18 hK16 hK11 hK9 hK2
          exact ⟨rfl, hC65.fr⟩

end Go.Proofs.YtoambminolcgfaaDoor
