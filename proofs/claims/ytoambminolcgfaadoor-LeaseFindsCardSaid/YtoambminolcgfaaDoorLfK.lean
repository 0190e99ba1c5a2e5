/- Contracts of functions of the program, each proved by a walk through its code; conditions stand in the statements. -/
import Derived.Test.YtoambminolcgfaaDoorLfJ
namespace Go.Proofs.YtoambminolcgfaaDoor
set_option linter.unusedSimpArgs false
set_option linter.unusedVariables false
set_option linter.unusedSectionVars false
open Go Go.RowKit Go.Tw
set_option linter.unusedVariables false
theorem Grant_is (A : Option Addr) (c : Nat) (xs : List Lease) (vip dip now : Int) (w : World) (hr : Rd w 4 encL A xs) (hwf : ∀ l ∈ xs, okL l) (hm : xs.length < 2 ^ 39) (hvip : 0 ≤ vip ∧ vip ≤ 4294967295) (hdip : 0 ≤ dip ∧ dip ≤ 4294967295) (hg : Rd w 1 (encI .u8) (some ⟨0, 0, none⟩) dbTab) (l : Lease) (ys : List Lease) (E : Int) (hE : grE xs vip dip now = E) (hL : grL xs vip dip now = l) (hX : grX xs vip dip now = ys) :
    Calls Tryd.prog 10 #[.slice A xs.length c, .int .u32 vip, .int .u32 dip, .int .i64 now] w fun e w' => ∃ v, e = .returned (.tuple #[v, .agg #[.int .u32 l.vip, .int .i64 l.first, .int .u32 l.dip, .int .i64 l.exp], errV 32 E]) ∧ Fr w w' [] ∧ w'.ownsRow w.heap.size 27 4 v ys.length (ys.flatMap encL) := by
  have h := Grant_ct A c xs vip dip now w hr hwf hm hvip hdip hg
  rw [hE, hL, hX] at h
  exact h
theorem okL_one {l : Lease} (h : okL l) : ∀ x ∈ [l], okL x := by simpa using h
theorem okL_two {l k : Lease} (h : okL l) (h' : okL k) : ∀ x ∈ [l, k], okL x := by simpa using ⟨h, h'⟩
theorem grE_zero {xs : List Lease} {vip dip now : Int} (h : grE xs vip dip now = 0) : checkL xs = true ∧ goodL ⟨vip, 1024, dip, 0⟩ = true ∧ 0 ≤ now ∧ now ≤ 1099511627776 ∧ (xs.filter (ofP dip now)).length < 4 ∧ (freeN xs vip now).isSome = true := by
  unfold grE at h
  split at h
  · rename_i h1
    split at h
    · cases h
    · rename_i h2
      split at h
      · rename_i h3
        simp only [Bool.and_eq_true] at h1
        have := goodTime_le h1.2
        exact ⟨h1.1.1, h1.1.2, this.1, this.2, Nat.lt_of_not_le h2, h3⟩
      · cases h
  · cases h
theorem freeN_nil (vip now : Int) : freeN [] vip now = some 0 := by
  unfold freeN; rw [List.find?_range_eq_some]; exact ⟨rfl, List.mem_range.2 (by omega), fun j hj => absurd hj (Nat.not_lt_zero j)⟩
theorem grE_nil (vip dip now : Int) : grE [] vip dip now = 0 ∨ grE [] vip dip now = 9 := by
  unfold grE
  split
  · left; rw [freeN_nil]; simp
  · right; rfl
theorem grL_nil {vip dip now : Int} (h : grE [] vip dip now = 0) : grL [] vip dip now = ⟨vip, 1024, dip, now + 64⟩ := by
  have hf : freeF [] vip now = 1024 := by unfold freeF; rw [freeN_nil]; rfl
  unfold grL; rw [if_pos h, hf]
theorem grX_nil {vip dip now : Int} (h : grE [] vip dip now = 0) : grX [] vip dip now = [⟨vip, 1024, dip, now + 64⟩] := by
  unfold grX; rw [if_pos h, grL_nil h]; rfl
theorem hasL_one (g : Lease) (p : Lease → Bool) : hasL ([g].filter p) = p g := by cases h : p g <;> simp [hasL, h]
theorem len_one (g : Lease) (p : Lease → Bool) : (([g].filter p).length : Int) = if p g then 1 else 0 := by cases h : p g <;> simp [h]
theorem grL_err {xs : List Lease} {vip dip now : Int} (h : grE xs vip dip now ≠ 0) : grL xs vip dip now = ⟨0, 0, 0, 0⟩ := by unfold grL; rw [if_neg h]
theorem grX_err {xs : List Lease} {vip dip now : Int} (h : grE xs vip dip now ≠ 0) : grX xs vip dip now = [] := by unfold grX; rw [if_neg h]
theorem alive_ct  (w : World) (hg : Rd w 1 (encI .u8) (some ⟨0, 0, none⟩) dbTab) : Calls Tryd.prog 9 #[] w fun e w' => e = .returned (.bool true) ∧ Fr w w' [] := by
  refine enterD (n := 58) Tryd.func9 rfl rfl (Nat.le_of_ble_eq_true rfl) ?_
  intro Q0 hN hret hret'
  have hC := Cx.start w
  refine WC.seq (fun K1 hK2 => ?_)
  refine WC.region ?_
  refine WL.runs 1 [(0, .bool false)] (fun _ => by kernel_rfl) ?_
  refine WL.done rfl ?_
  refine QX.then_normal (hK2 _ _ ?_)
  refine WC.seq (fun K3 hK4 => ?_)
  refine WC.region ?_
  refine WL.call rfl rfl rfl rfl rfl (by kernel_rfl) (Grant_is none 0 [] 16843009 167837697 5 w (Rd.nil _ _ _ _) (by simp) (by simp) (by decide) (by decide) (Rd.fr hg hC.fr) (⟨16843009, 1024, 167837697, 69⟩ : Lease) [(⟨16843009, 1024, 167837697, 69⟩ : Lease)] 0 (by decide +kernel) (by decide +kernel) (by decide +kernel)) ?_
  rintro _ w7 ⟨v_, rfl, hF6, ho5⟩
  have hC8 := hC.callN hF6 (own_ge ho5) (own_lt ho5)
  obtain ⟨A9, c10, rfl, hle11⟩ := own_form ho5
  have ho13 := own_base (b' := 0) ho5 (fun _ _ => Nat.zero_le _)
  refine ⟨_, rfl, ?_⟩
  refine WL.runs 4 [(12, .nilIface), (11, .agg #[.int .u32 16843009, .int .i64 1024, .int .u32 167837697, .int .i64 69]), (10, .slice A9 ([(⟨16843009, 1024, 167837697, 69⟩ : Lease)].length) c10), (8, .tuple #[.slice A9 ([(⟨16843009, 1024, 167837697, 69⟩ : Lease)].length) c10, .agg #[.int .u32 16843009, .int .i64 1024, .int .u32 167837697, .int .i64 69], .nilIface])] (fun _ => by kernel_rfl) ?_
  refine WL.newM hC8 (fun b => .pointer (some ⟨b, 0, none⟩)) (.cells #[.int .u32 0, .int .i64 0, .int .u32 0, .int .i64 0] 27) 2 (fun _ => by kernel_rfl) (fun g15 w16 hb19 hF17 hC18 => ?_)
  have ho20 := own_fr ho13 hF17 (by simp)
  refine WL.runs 1 [(1, .slice A9 ([(⟨16843009, 1024, 167837697, 69⟩ : Lease)].length) c10)] (fun _ => by kernel_rfl) ?_
  refine WL.storeM hC18 0 27 g15 0 (.agg #[.int .u32 16843009, .int .i64 1024, .int .u32 167837697, .int .i64 69]) (by kernel_rfl) rfl rfl (fun w21 hF23 hC24 => ?_)
  have ho25 := own_fr ho20 hF23 (hC18.apartM 0 0 rfl rfl)
  refine WL.runs 1 [(3, .nilIface)] (fun _ => by kernel_rfl) ?_
  refine WL.done rfl ?_
  refine QX.then_normal (hK4 _ _ ?_)
  refine WC.seq (fun K26 hK27 => ?_)
  refine WC.region ?_
  refine WL.runs 1 [(14, .slice A9 ([(⟨16843009, 1024, 167837697, 69⟩ : Lease)].length) c10)] (fun _ => by kernel_rfl) ?_
  refine WL.call rfl rfl rfl rfl rfl (by kernel_rfl) (Grant_is A9 c10 [(⟨16843009, 1024, 167837697, 69⟩ : Lease)] 16843009 167837698 6 w21 (own_rd ho25 encL_len (by decide)) (okL_one (by simp [okL])) (by simp) (by decide) (by decide) (Rd.fr hg hC24.fr) (⟨16843009, 1032, 167837698, 70⟩ : Lease) [(⟨16843009, 1024, 167837697, 69⟩ : Lease), (⟨16843009, 1032, 167837698, 70⟩ : Lease)] 0 (by decide +kernel) (by decide +kernel) (by decide +kernel)) ?_
  rintro _ w30 ⟨v_, rfl, hF29, ho28⟩
  have hC31 := hC24.callN hF29 (own_ge ho28) (own_lt ho28)
  obtain ⟨A32, c33, rfl, hle34⟩ := own_form ho28
  have ho36 := own_base (b' := 0) ho28 (fun _ _ => Nat.zero_le _)
  refine ⟨_, rfl, ?_⟩
  have ho37 := own_fr ho25 hF29 (by simp)
  refine WL.runs 4 [(18, .nilIface), (17, .agg #[.int .u32 16843009, .int .i64 1032, .int .u32 167837698, .int .i64 70]), (16, .slice A32 ([(⟨16843009, 1024, 167837697, 69⟩ : Lease), (⟨16843009, 1032, 167837698, 70⟩ : Lease)].length) c33), (13, .tuple #[.slice A32 ([(⟨16843009, 1024, 167837697, 69⟩ : Lease), (⟨16843009, 1032, 167837698, 70⟩ : Lease)].length) c33, .agg #[.int .u32 16843009, .int .i64 1032, .int .u32 167837698, .int .i64 70], .nilIface])] (fun _ => by kernel_rfl) ?_
  refine WL.newM hC31 (fun b => .pointer (some ⟨b, 0, none⟩)) (.cells #[.int .u32 0, .int .i64 0, .int .u32 0, .int .i64 0] 27) 4 (fun _ => by kernel_rfl) (fun g39 w40 hb43 hF41 hC42 => ?_)
  have ho44 := own_fr ho37 hF41 (by simp)
  have ho45 := own_fr ho36 hF41 (by simp)
  refine WL.runs 1 [(1, .slice A32 ([(⟨16843009, 1024, 167837697, 69⟩ : Lease), (⟨16843009, 1032, 167837698, 70⟩ : Lease)].length) c33)] (fun _ => by kernel_rfl) ?_
  refine WL.storeM hC42 1 27 g39 0 (.agg #[.int .u32 16843009, .int .i64 1032, .int .u32 167837698, .int .i64 70]) (by kernel_rfl) rfl rfl (fun w46 hF48 hC49 => ?_)
  have ho50 := own_fr ho44 hF48 (hC42.apartM 0 1 rfl rfl)
  have ho51 := own_fr ho45 hF48 (hC42.apartM 1 1 rfl rfl)
  refine WL.runs 1 [(5, .nilIface)] (fun _ => by kernel_rfl) ?_
  refine WL.done rfl ?_
  refine QX.then_normal (hK27 _ _ ?_)
  refine WC.seq (fun K52 hK53 => ?_)
  refine WC.region ?_
  refine WL.runs 1 [(20, .slice A32 ([(⟨16843009, 1024, 167837697, 69⟩ : Lease), (⟨16843009, 1032, 167837698, 70⟩ : Lease)].length) c33)] (fun _ => by kernel_rfl) ?_
  refine WL.call rfl rfl rfl rfl rfl (by kernel_rfl) (Find_ct A32 c33 [(⟨16843009, 1024, 167837697, 69⟩ : Lease), (⟨16843009, 1032, 167837698, 70⟩ : Lease)] 16843009 1033 70 w46 (own_rd ho51 encL_len (by decide)) (okL_two (by simp [okL]) (by simp [okL])) (by first | omega | simp) (by omega)) ?_
  rintro _ w55 ⟨rfl, hF54⟩
  refine ⟨_, rfl, ?_⟩
  have hC56 := hC49.call hF54
  have ho57 := own_fr ho50 hF54 (by simp)
  have ho58 := own_fr ho51 hF54 (by simp)
  refine WL.runs 3 [(23, .bool (hasL ([(⟨16843009, 1024, 167837697, 69⟩ : Lease), (⟨16843009, 1032, 167837698, 70⟩ : Lease)].filter (findP 16843009 1033 70)))), (22, .agg #[.int .u32 ((headL ([(⟨16843009, 1024, 167837697, 69⟩ : Lease), (⟨16843009, 1032, 167837698, 70⟩ : Lease)].filter (findP 16843009 1033 70))).vip), .int .i64 ((headL ([(⟨16843009, 1024, 167837697, 69⟩ : Lease), (⟨16843009, 1032, 167837698, 70⟩ : Lease)].filter (findP 16843009 1033 70))).first), .int .u32 ((headL ([(⟨16843009, 1024, 167837697, 69⟩ : Lease), (⟨16843009, 1032, 167837698, 70⟩ : Lease)].filter (findP 16843009 1033 70))).dip), .int .i64 ((headL ([(⟨16843009, 1024, 167837697, 69⟩ : Lease), (⟨16843009, 1032, 167837698, 70⟩ : Lease)].filter (findP 16843009 1033 70))).exp)]), (19, .tuple #[.agg #[.int .u32 ((headL ([(⟨16843009, 1024, 167837697, 69⟩ : Lease), (⟨16843009, 1032, 167837698, 70⟩ : Lease)].filter (findP 16843009 1033 70))).vip), .int .i64 ((headL ([(⟨16843009, 1024, 167837697, 69⟩ : Lease), (⟨16843009, 1032, 167837698, 70⟩ : Lease)].filter (findP 16843009 1033 70))).first), .int .u32 ((headL ([(⟨16843009, 1024, 167837697, 69⟩ : Lease), (⟨16843009, 1032, 167837698, 70⟩ : Lease)].filter (findP 16843009 1033 70))).dip), .int .i64 ((headL ([(⟨16843009, 1024, 167837697, 69⟩ : Lease), (⟨16843009, 1032, 167837698, 70⟩ : Lease)].filter (findP 16843009 1033 70))).exp)], .bool (hasL ([(⟨16843009, 1024, 167837697, 69⟩ : Lease), (⟨16843009, 1032, 167837698, 70⟩ : Lease)].filter (findP 16843009 1033 70)))])] (fun _ => by kernel_rfl) ?_
  refine WL.newM hC56 (fun b => .pointer (some ⟨b, 0, none⟩)) (.cells #[.int .u32 0, .int .i64 0, .int .u32 0, .int .i64 0] 27) 6 (fun _ => by kernel_rfl) (fun g59 w60 hb63 hF61 hC62 => ?_)
  have ho64 := own_fr ho57 hF61 (by simp)
  have ho65 := own_fr ho58 hF61 (by simp)
  refine WL.storeM hC62 2 27 g59 0 (.agg #[.int .u32 ((headL ([(⟨16843009, 1024, 167837697, 69⟩ : Lease), (⟨16843009, 1032, 167837698, 70⟩ : Lease)].filter (findP 16843009 1033 70))).vip), .int .i64 ((headL ([(⟨16843009, 1024, 167837697, 69⟩ : Lease), (⟨16843009, 1032, 167837698, 70⟩ : Lease)].filter (findP 16843009 1033 70))).first), .int .u32 ((headL ([(⟨16843009, 1024, 167837697, 69⟩ : Lease), (⟨16843009, 1032, 167837698, 70⟩ : Lease)].filter (findP 16843009 1033 70))).dip), .int .i64 ((headL ([(⟨16843009, 1024, 167837697, 69⟩ : Lease), (⟨16843009, 1032, 167837698, 70⟩ : Lease)].filter (findP 16843009 1033 70))).exp)]) (by kernel_rfl) rfl rfl (fun w66 hF68 hC69 => ?_)
  have ho70 := own_fr ho64 hF68 (hC62.apartM 0 2 rfl rfl)
  have ho71 := own_fr ho65 hF68 (hC62.apartM 1 2 rfl rfl)
  refine WL.runs 1 [(7, .bool (hasL ([(⟨16843009, 1024, 167837697, 69⟩ : Lease), (⟨16843009, 1032, 167837698, 70⟩ : Lease)].filter (findP 16843009 1033 70))))] (fun _ => by kernel_rfl) ?_
  refine WL.done rfl ?_
  refine QX.then_normal (hK53 _ _ ?_)
  refine WC.seq (fun K72 hK73 => ?_)
  refine WC.region ?_
  refine WL.runs 8 [(31, .pointer (some ⟨g15, 1, none⟩)), (30, .bool true), (29, .bool true), (28, .bool true), (27, .nilIface), (26, .bool true), (25, .bool true), (24, .nilIface)] (fun _ => by kernel_rfl) ?_
  refine WL.load 3 (.pointer (some ⟨g15, 1, none⟩)) (.int .i64 1024) 32 (by kernel_rfl) (run_ld (hC69.get 0 rfl) rfl) ?_
  refine WL.runs 4 [(36, .pointer (some ⟨g15, 3, none⟩)), (35, .bool true), (34, .bool true), (33, .bool true)] (fun _ => by kernel_rfl) ?_
  refine WL.load 3 (.pointer (some ⟨g15, 3, none⟩)) (.int .i64 69) 37 (by kernel_rfl) (run_ld (hC69.get 0 rfl) rfl) ?_
  refine WL.runs 4 [(41, .pointer (some ⟨g39, 1, none⟩)), (40, .bool true), (39, .bool true), (38, .bool true)] (fun _ => by kernel_rfl) ?_
  refine WL.load 3 (.pointer (some ⟨g39, 1, none⟩)) (.int .i64 1032) 42 (by kernel_rfl) (run_ld (hC69.get 1 rfl) rfl) ?_
  refine WL.runs 6 [(48, .bool (hasL ([(⟨16843009, 1024, 167837697, 69⟩ : Lease), (⟨16843009, 1032, 167837698, 70⟩ : Lease)].filter (findP 16843009 1033 70)))), (47, .bool (hasL ([(⟨16843009, 1024, 167837697, 69⟩ : Lease), (⟨16843009, 1032, 167837698, 70⟩ : Lease)].filter (findP 16843009 1033 70)))), (46, .bool (hasL ([(⟨16843009, 1024, 167837697, 69⟩ : Lease), (⟨16843009, 1032, 167837698, 70⟩ : Lease)].filter (findP 16843009 1033 70)))), (45, .bool true), (44, .bool true), (43, .bool true)] (fun _ => by kernel_rfl) ?_
  refine WL.know 48 (.bool (hasL ([(⟨16843009, 1024, 167837697, 69⟩ : Lease), (⟨16843009, 1032, 167837698, 70⟩ : Lease)].filter (findP 16843009 1033 70)))) (.bool true) rfl (congrArg Value.bool (by decide +kernel)) ?_
  refine WL.load 27 (.pointer (some ⟨g59, 0, none⟩)) (.agg #[.int .u32 ((headL ([(⟨16843009, 1024, 167837697, 69⟩ : Lease), (⟨16843009, 1032, 167837698, 70⟩ : Lease)].filter (findP 16843009 1033 70))).vip), .int .i64 ((headL ([(⟨16843009, 1024, 167837697, 69⟩ : Lease), (⟨16843009, 1032, 167837698, 70⟩ : Lease)].filter (findP 16843009 1033 70))).first), .int .u32 ((headL ([(⟨16843009, 1024, 167837697, 69⟩ : Lease), (⟨16843009, 1032, 167837698, 70⟩ : Lease)].filter (findP 16843009 1033 70))).dip), .int .i64 ((headL ([(⟨16843009, 1024, 167837697, 69⟩ : Lease), (⟨16843009, 1032, 167837698, 70⟩ : Lease)].filter (findP 16843009 1033 70))).exp)]) 49 (by kernel_rfl) (run_ld (hC69.get 2 rfl) rfl) ?_
  refine WL.load 27 (.pointer (some ⟨g39, 0, none⟩)) (.agg #[.int .u32 16843009, .int .i64 1032, .int .u32 167837698, .int .i64 70]) 50 (by kernel_rfl) (run_ld (hC69.get 1 rfl) rfl) ?_
  have hr74 : ∀ w_, Sem.run Tryd.prog (do eqGuard .eql 27 (Operand.tmp 49) (Operand.tmp 50) (.agg #[.int .u32 ((headL ([(⟨16843009, 1024, 167837697, 69⟩ : Lease), (⟨16843009, 1032, 167837698, 70⟩ : Lease)].filter (findP 16843009 1033 70))).vip), .int .i64 ((headL ([(⟨16843009, 1024, 167837697, 69⟩ : Lease), (⟨16843009, 1032, 167837698, 70⟩ : Lease)].filter (findP 16843009 1033 70))).first), .int .u32 ((headL ([(⟨16843009, 1024, 167837697, 69⟩ : Lease), (⟨16843009, 1032, 167837698, 70⟩ : Lease)].filter (findP 16843009 1033 70))).dip), .int .i64 ((headL ([(⟨16843009, 1024, 167837697, 69⟩ : Lease), (⟨16843009, 1032, 167837698, 70⟩ : Lease)].filter (findP 16843009 1033 70))).exp)]) (.agg #[.int .u32 16843009, .int .i64 1032, .int .u32 167837698, .int .i64 70]); binOp .eql 27 (.agg #[.int .u32 ((headL ([(⟨16843009, 1024, 167837697, 69⟩ : Lease), (⟨16843009, 1032, 167837698, 70⟩ : Lease)].filter (findP 16843009 1033 70))).vip), .int .i64 ((headL ([(⟨16843009, 1024, 167837697, 69⟩ : Lease), (⟨16843009, 1032, 167837698, 70⟩ : Lease)].filter (findP 16843009 1033 70))).first), .int .u32 ((headL ([(⟨16843009, 1024, 167837697, 69⟩ : Lease), (⟨16843009, 1032, 167837698, 70⟩ : Lease)].filter (findP 16843009 1033 70))).dip), .int .i64 ((headL ([(⟨16843009, 1024, 167837697, 69⟩ : Lease), (⟨16843009, 1032, 167837698, 70⟩ : Lease)].filter (findP 16843009 1033 70))).exp)]) (.agg #[.int .u32 16843009, .int .i64 1032, .int .u32 167837698, .int .i64 70])) w_ = .ok (.bool (((headL ([(⟨16843009, 1024, 167837697, 69⟩ : Lease), (⟨16843009, 1032, 167837698, 70⟩ : Lease)].filter (findP 16843009 1033 70))).vip) == (16843009 : Int) && (((headL ([(⟨16843009, 1024, 167837697, 69⟩ : Lease), (⟨16843009, 1032, 167837698, 70⟩ : Lease)].filter (findP 16843009 1033 70))).first) == (1032 : Int) && (((headL ([(⟨16843009, 1024, 167837697, 69⟩ : Lease), (⟨16843009, 1032, 167837698, 70⟩ : Lease)].filter (findP 16843009 1033 70))).dip) == (167837698 : Int) && (((headL ([(⟨16843009, 1024, 167837697, 69⟩ : Lease), (⟨16843009, 1032, 167837698, 70⟩ : Lease)].filter (findP 16843009 1033 70))).exp) == (70 : Int) && true))))) w_ := fun w_ => (run_eql_S (by kernel_rfl))
  refine WL.sem (do eqGuard .eql 27 (Operand.tmp 49) (Operand.tmp 50) (.agg #[.int .u32 ((headL ([(⟨16843009, 1024, 167837697, 69⟩ : Lease), (⟨16843009, 1032, 167837698, 70⟩ : Lease)].filter (findP 16843009 1033 70))).vip), .int .i64 ((headL ([(⟨16843009, 1024, 167837697, 69⟩ : Lease), (⟨16843009, 1032, 167837698, 70⟩ : Lease)].filter (findP 16843009 1033 70))).first), .int .u32 ((headL ([(⟨16843009, 1024, 167837697, 69⟩ : Lease), (⟨16843009, 1032, 167837698, 70⟩ : Lease)].filter (findP 16843009 1033 70))).dip), .int .i64 ((headL ([(⟨16843009, 1024, 167837697, 69⟩ : Lease), (⟨16843009, 1032, 167837698, 70⟩ : Lease)].filter (findP 16843009 1033 70))).exp)]) (.agg #[.int .u32 16843009, .int .i64 1032, .int .u32 167837698, .int .i64 70]); binOp .eql 27 (.agg #[.int .u32 ((headL ([(⟨16843009, 1024, 167837697, 69⟩ : Lease), (⟨16843009, 1032, 167837698, 70⟩ : Lease)].filter (findP 16843009 1033 70))).vip), .int .i64 ((headL ([(⟨16843009, 1024, 167837697, 69⟩ : Lease), (⟨16843009, 1032, 167837698, 70⟩ : Lease)].filter (findP 16843009 1033 70))).first), .int .u32 ((headL ([(⟨16843009, 1024, 167837697, 69⟩ : Lease), (⟨16843009, 1032, 167837698, 70⟩ : Lease)].filter (findP 16843009 1033 70))).dip), .int .i64 ((headL ([(⟨16843009, 1024, 167837697, 69⟩ : Lease), (⟨16843009, 1032, 167837698, 70⟩ : Lease)].filter (findP 16843009 1033 70))).exp)]) (.agg #[.int .u32 16843009, .int .i64 1032, .int .u32 167837698, .int .i64 70])) 51 (.bool (((headL ([(⟨16843009, 1024, 167837697, 69⟩ : Lease), (⟨16843009, 1032, 167837698, 70⟩ : Lease)].filter (findP 16843009 1033 70))).vip) == (16843009 : Int) && (((headL ([(⟨16843009, 1024, 167837697, 69⟩ : Lease), (⟨16843009, 1032, 167837698, 70⟩ : Lease)].filter (findP 16843009 1033 70))).first) == (1032 : Int) && (((headL ([(⟨16843009, 1024, 167837697, 69⟩ : Lease), (⟨16843009, 1032, 167837698, 70⟩ : Lease)].filter (findP 16843009 1033 70))).dip) == (167837698 : Int) && (((headL ([(⟨16843009, 1024, 167837697, 69⟩ : Lease), (⟨16843009, 1032, 167837698, 70⟩ : Lease)].filter (findP 16843009 1033 70))).exp) == (70 : Int) && true))))) (by kernel_rfl) (hr74 _) ?_
  refine WL.runs 2 [(53, .bool (((headL ([(⟨16843009, 1024, 167837697, 69⟩ : Lease), (⟨16843009, 1032, 167837698, 70⟩ : Lease)].filter (findP 16843009 1033 70))).vip) == (16843009 : Int) && (((headL ([(⟨16843009, 1024, 167837697, 69⟩ : Lease), (⟨16843009, 1032, 167837698, 70⟩ : Lease)].filter (findP 16843009 1033 70))).first) == (1032 : Int) && (((headL ([(⟨16843009, 1024, 167837697, 69⟩ : Lease), (⟨16843009, 1032, 167837698, 70⟩ : Lease)].filter (findP 16843009 1033 70))).dip) == (167837698 : Int) && (((headL ([(⟨16843009, 1024, 167837697, 69⟩ : Lease), (⟨16843009, 1032, 167837698, 70⟩ : Lease)].filter (findP 16843009 1033 70))).exp) == (70 : Int) && true))))), (52, .bool (((headL ([(⟨16843009, 1024, 167837697, 69⟩ : Lease), (⟨16843009, 1032, 167837698, 70⟩ : Lease)].filter (findP 16843009 1033 70))).vip) == (16843009 : Int) && (((headL ([(⟨16843009, 1024, 167837697, 69⟩ : Lease), (⟨16843009, 1032, 167837698, 70⟩ : Lease)].filter (findP 16843009 1033 70))).first) == (1032 : Int) && (((headL ([(⟨16843009, 1024, 167837697, 69⟩ : Lease), (⟨16843009, 1032, 167837698, 70⟩ : Lease)].filter (findP 16843009 1033 70))).dip) == (167837698 : Int) && (((headL ([(⟨16843009, 1024, 167837697, 69⟩ : Lease), (⟨16843009, 1032, 167837698, 70⟩ : Lease)].filter (findP 16843009 1033 70))).exp) == (70 : Int) && true)))))] (fun _ => by kernel_rfl) ?_
  refine WL.know 53 (.bool (((headL ([(⟨16843009, 1024, 167837697, 69⟩ : Lease), (⟨16843009, 1032, 167837698, 70⟩ : Lease)].filter (findP 16843009 1033 70))).vip) == (16843009 : Int) && (((headL ([(⟨16843009, 1024, 167837697, 69⟩ : Lease), (⟨16843009, 1032, 167837698, 70⟩ : Lease)].filter (findP 16843009 1033 70))).first) == (1032 : Int) && (((headL ([(⟨16843009, 1024, 167837697, 69⟩ : Lease), (⟨16843009, 1032, 167837698, 70⟩ : Lease)].filter (findP 16843009 1033 70))).dip) == (167837698 : Int) && (((headL ([(⟨16843009, 1024, 167837697, 69⟩ : Lease), (⟨16843009, 1032, 167837698, 70⟩ : Lease)].filter (findP 16843009 1033 70))).exp) == (70 : Int) && true))))) (.bool true) rfl (congrArg Value.bool (by decide +kernel)) ?_
  refine WL.runs 5 [(0, .bool (([(⟨16843009, 1024, 167837697, 69⟩ : Lease), (⟨16843009, 1032, 167837698, 70⟩ : Lease)].length : Int) == 2)), (57, .bool (([(⟨16843009, 1024, 167837697, 69⟩ : Lease), (⟨16843009, 1032, 167837698, 70⟩ : Lease)].length : Int) == 2)), (56, .bool (([(⟨16843009, 1024, 167837697, 69⟩ : Lease), (⟨16843009, 1032, 167837698, 70⟩ : Lease)].length : Int) == 2)), (55, .int .i64 ([(⟨16843009, 1024, 167837697, 69⟩ : Lease), (⟨16843009, 1032, 167837698, 70⟩ : Lease)].length : Int)), (54, .slice A32 ([(⟨16843009, 1024, 167837697, 69⟩ : Lease), (⟨16843009, 1032, 167837698, 70⟩ : Lease)].length) c33)] (fun _ => by kernel_rfl) ?_
  refine WL.done rfl ?_
  refine QX.then_normal (hK73 _ _ ?_)
  refine WC.ret ?_
  refine (hret _ _ _ rfl ?_).1
  clear hN hret hret' hK73 hK53 hK27 hK4 hK2
  exact ⟨congrArg (fun b_ => Ending.returned (Value.bool b_)) (show (([(⟨16843009, 1024, 167837697, 69⟩ : Lease), (⟨16843009, 1032, 167837698, 70⟩ : Lease)].length : Int) == 2) = true from by decide +kernel), hC69.fr⟩

theorem LeaseBorders_ct (vip dip now : Int) (w : World) (hvip : 0 ≤ vip ∧ vip ≤ 4294967295) (hdip : 0 ≤ dip ∧ dip ≤ 4294967295) (hnow : -9223372036854775808 ≤ now ∧ now ≤ 9223372036854775807) (hg : Rd w 1 (encI .u8) (some ⟨0, 0, none⟩) dbTab) : Calls Tryd.prog 6 #[.int .u32 vip, .int .u32 dip, .int .i64 now] w fun e w' => e = .returned (.bool true) ∧ Fr w w' [] := by
  refine enterD (n := 132) Tryd.func6 rfl rfl (Nat.le_of_ble_eq_true rfl) ?_
  intro Q0 hN hret hret'
  have hC := Cx.start w
  refine WC.seq (fun K1 hK2 => ?_)
  refine WC.region ?_
  refine WL.runs 1 [(6, .bool false)] (fun _ => by kernel_rfl) ?_
  refine WL.done rfl ?_
  refine QX.then_normal (hK2 _ _ ?_)
  refine WC.seq (fun K3 hK4 => ?_)
  refine WC.seq (fun K5 hK6 => ?_)
  refine WC.region ?_
  refine WL.call rfl rfl rfl rfl rfl (by kernel_rfl) (alive_ct w (Rd.fr hg hC.fr)) ?_
  rintro _ w8 ⟨rfl, hF7⟩
  refine ⟨_, rfl, ?_⟩
  have hC9 := hC.call hF7
  refine WL.runs 1 [(19, .bool false)] (fun _ => by kernel_rfl) ?_
  refine WL.done rfl ?_
  refine QX.then_normal (hK6 _ _ ?_)
  refine WC.cond_false rfl ?_
  refine WC.skip ?_
  refine QX.then_normal (hK4 _ _ ?_)
  refine WC.seq (fun K10 hK11 => ?_)
  refine WC.region ?_
  refine WL.runs 3 [(23, .int .i64 now), (22, .int .u32 dip), (21, .int .u32 vip)] (fun _ => by kernel_rfl) ?_
  rcases grE_nil vip dip now with hE | hE
  ·
    obtain ⟨_, hgood_, hn0, hn1, _, _⟩ := grE_zero hE
    refine WL.call rfl rfl rfl rfl rfl (by kernel_rfl) (Grant_is none 0 [] vip dip now w8 (Rd.nil _ _ _ _) (by simp) (by simp) (by omega) (by omega) (Rd.fr hg hC9.fr) (⟨vip, 1024, dip, now + 64⟩ : Lease) [(⟨vip, 1024, dip, now + 64⟩ : Lease)] 0 hE (grL_nil hE) (grX_nil hE)) ?_
    rintro _ w14 ⟨v_, rfl, hF13, ho12⟩
    have hC15 := hC9.callN hF13 (own_ge ho12) (own_lt ho12)
    obtain ⟨A16, c17, rfl, hle18⟩ := own_form ho12
    have ho20 := own_base (b' := 0) ho12 (fun _ _ => Nat.zero_le _)
    refine ⟨_, rfl, ?_⟩
    refine WL.runs 4 [(27, .nilIface), (26, .agg #[.int .u32 vip, .int .i64 1024, .int .u32 dip, .int .i64 (now + 64)]), (25, .slice A16 ([(⟨vip, 1024, dip, now + 64⟩ : Lease)].length) c17), (20, .tuple #[.slice A16 ([(⟨vip, 1024, dip, now + 64⟩ : Lease)].length) c17, .agg #[.int .u32 vip, .int .i64 1024, .int .u32 dip, .int .i64 (now + 64)], .nilIface])] (fun _ => by kernel_rfl) ?_
    refine WL.newM hC15 (fun b => .pointer (some ⟨b, 0, none⟩)) (.cells #[.int .u32 0, .int .i64 0, .int .u32 0, .int .i64 0] 27) 8 (fun _ => by kernel_rfl) (fun g22 w23 hb26 hF24 hC25 => ?_)
    have ho27 := own_fr ho20 hF24 (by simp)
    refine WL.runs 1 [(7, .slice A16 ([(⟨vip, 1024, dip, now + 64⟩ : Lease)].length) c17)] (fun _ => by kernel_rfl) ?_
    refine WL.storeM hC25 0 27 g22 0 (.agg #[.int .u32 vip, .int .i64 1024, .int .u32 dip, .int .i64 (now + 64)]) (by kernel_rfl) rfl rfl (fun w28 hF30 hC31 => ?_)
    have ho32 := own_fr ho27 hF30 (hC25.apartM 0 0 rfl rfl)
    refine WL.runs 1 [(9, .nilIface)] (fun _ => by kernel_rfl) ?_
    refine WL.done rfl ?_
    refine QX.then_normal (hK11 _ _ ?_)
    refine WC.seq (fun K33 hK34 => ?_)
    refine WC.seq (fun K35 hK36 => ?_)
    refine WC.region ?_
    refine WL.runs 2 [(29, .bool false), (28, .nilIface)] (fun _ => by kernel_rfl) ?_
    refine WL.done rfl ?_
    refine QX.then_normal (hK36 _ _ ?_)
    refine WC.cond_false rfl ?_
    refine WC.skip ?_
    refine QX.then_normal (hK34 _ _ ?_)
    refine WC.seq (fun K37 hK38 => ?_)
    refine WC.region ?_
    refine WL.runs 3 [(46, .pointer (some ⟨g22, 1, none⟩)), (45, .int .u32 vip), (44, .slice A16 ([(⟨vip, 1024, dip, now + 64⟩ : Lease)].length) c17)] (fun _ => by kernel_rfl) ?_
    refine WL.load 3 (.pointer (some ⟨g22, 1, none⟩)) (.int .i64 1024) 47 (by kernel_rfl) (run_ld (hC31.get 0 rfl) rfl) ?_
    refine WL.runs 1 [(48, .int .i64 (IntKind.i64.wrap (1024 + 7)))] (fun _ => by kernel_rfl) ?_
    refine WL.recast (show (.int .i64 (IntKind.i64.wrap (1024 + 7)) : Value) = .int .i64 (1024 + 7) from by rw [wrap_in_i64 (1024 + 7) (by omega) (by omega)]) ?_
    refine WL.runs 1 [(49, .pointer (some ⟨g22, 3, none⟩))] (fun _ => by kernel_rfl) ?_
    refine WL.load 3 (.pointer (some ⟨g22, 3, none⟩)) (.int .i64 (now + 64)) 50 (by kernel_rfl) (run_ld (hC31.get 0 rfl) rfl) ?_
    refine WL.call rfl rfl rfl rfl rfl (by kernel_rfl) (Find_ct A16 c17 [(⟨vip, 1024, dip, now + 64⟩ : Lease)] vip (1024 + 7) (now + 64) w28 (own_rd ho32 encL_len (by decide)) (okL_one (by simp only [okL]; omega)) (by first | omega | simp) (by omega)) ?_
    rintro _ w40 ⟨rfl, hF39⟩
    refine ⟨_, rfl, ?_⟩
    have hC41 := hC31.call hF39
    have ho42 := own_fr ho32 hF39 (by simp)
    refine WL.runs 3 [(53, .bool (hasL ([(⟨vip, 1024, dip, now + 64⟩ : Lease)].filter (findP vip (1024 + 7) (now + 64))))), (52, .agg #[.int .u32 ((headL ([(⟨vip, 1024, dip, now + 64⟩ : Lease)].filter (findP vip (1024 + 7) (now + 64)))).vip), .int .i64 ((headL ([(⟨vip, 1024, dip, now + 64⟩ : Lease)].filter (findP vip (1024 + 7) (now + 64)))).first), .int .u32 ((headL ([(⟨vip, 1024, dip, now + 64⟩ : Lease)].filter (findP vip (1024 + 7) (now + 64)))).dip), .int .i64 ((headL ([(⟨vip, 1024, dip, now + 64⟩ : Lease)].filter (findP vip (1024 + 7) (now + 64)))).exp)]), (43, .tuple #[.agg #[.int .u32 ((headL ([(⟨vip, 1024, dip, now + 64⟩ : Lease)].filter (findP vip (1024 + 7) (now + 64)))).vip), .int .i64 ((headL ([(⟨vip, 1024, dip, now + 64⟩ : Lease)].filter (findP vip (1024 + 7) (now + 64)))).first), .int .u32 ((headL ([(⟨vip, 1024, dip, now + 64⟩ : Lease)].filter (findP vip (1024 + 7) (now + 64)))).dip), .int .i64 ((headL ([(⟨vip, 1024, dip, now + 64⟩ : Lease)].filter (findP vip (1024 + 7) (now + 64)))).exp)], .bool (hasL ([(⟨vip, 1024, dip, now + 64⟩ : Lease)].filter (findP vip (1024 + 7) (now + 64))))])] (fun _ => by kernel_rfl) ?_
    refine WL.newM hC41 (fun b => .pointer (some ⟨b, 0, none⟩)) (.cells #[.int .u32 0, .int .i64 0, .int .u32 0, .int .i64 0] 27) 10 (fun _ => by kernel_rfl) (fun g43 w44 hb47 hF45 hC46 => ?_)
    have ho48 := own_fr ho42 hF45 (by simp)
    refine WL.storeM hC46 1 27 g43 0 (.agg #[.int .u32 ((headL ([(⟨vip, 1024, dip, now + 64⟩ : Lease)].filter (findP vip (1024 + 7) (now + 64)))).vip), .int .i64 ((headL ([(⟨vip, 1024, dip, now + 64⟩ : Lease)].filter (findP vip (1024 + 7) (now + 64)))).first), .int .u32 ((headL ([(⟨vip, 1024, dip, now + 64⟩ : Lease)].filter (findP vip (1024 + 7) (now + 64)))).dip), .int .i64 ((headL ([(⟨vip, 1024, dip, now + 64⟩ : Lease)].filter (findP vip (1024 + 7) (now + 64)))).exp)]) (by kernel_rfl) rfl rfl (fun w49 hF51 hC52 => ?_)
    have ho53 := own_fr ho48 hF51 (hC46.apartM 0 1 rfl rfl)
    refine WL.runs 1 [(11, .bool (hasL ([(⟨vip, 1024, dip, now + 64⟩ : Lease)].filter (findP vip (1024 + 7) (now + 64)))))] (fun _ => by kernel_rfl) ?_
    refine WL.done rfl ?_
    refine QX.then_normal (hK38 _ _ ?_)
    refine WC.seq (fun K54 hK55 => ?_)
    refine WC.region ?_
    refine WL.runs 3 [(57, .pointer (some ⟨g22, 1, none⟩)), (56, .int .u32 vip), (55, .slice A16 ([(⟨vip, 1024, dip, now + 64⟩ : Lease)].length) c17)] (fun _ => by kernel_rfl) ?_
    refine WL.load 3 (.pointer (some ⟨g22, 1, none⟩)) (.int .i64 1024) 58 (by kernel_rfl) (run_ld (hC52.get 0 rfl) rfl) ?_
    refine WL.runs 1 [(59, .int .i64 (IntKind.i64.wrap (1024 + 8)))] (fun _ => by kernel_rfl) ?_
    refine WL.recast (show (.int .i64 (IntKind.i64.wrap (1024 + 8)) : Value) = .int .i64 (1024 + 8) from by rw [wrap_in_i64 (1024 + 8) (by omega) (by omega)]) ?_
    refine WL.runs 1 [(60, .pointer (some ⟨g22, 3, none⟩))] (fun _ => by kernel_rfl) ?_
    refine WL.load 3 (.pointer (some ⟨g22, 3, none⟩)) (.int .i64 (now + 64)) 61 (by kernel_rfl) (run_ld (hC52.get 0 rfl) rfl) ?_
    refine WL.call rfl rfl rfl rfl rfl (by kernel_rfl) (Find_ct A16 c17 [(⟨vip, 1024, dip, now + 64⟩ : Lease)] vip (1024 + 8) (now + 64) w49 (own_rd ho53 encL_len (by decide)) (okL_one (by simp only [okL]; omega)) (by first | omega | simp) (by omega)) ?_
    rintro _ w57 ⟨rfl, hF56⟩
    refine ⟨_, rfl, ?_⟩
    have hC58 := hC52.call hF56
    have ho59 := own_fr ho53 hF56 (by simp)
    refine WL.runs 3 [(64, .bool (hasL ([(⟨vip, 1024, dip, now + 64⟩ : Lease)].filter (findP vip (1024 + 8) (now + 64))))), (63, .agg #[.int .u32 ((headL ([(⟨vip, 1024, dip, now + 64⟩ : Lease)].filter (findP vip (1024 + 8) (now + 64)))).vip), .int .i64 ((headL ([(⟨vip, 1024, dip, now + 64⟩ : Lease)].filter (findP vip (1024 + 8) (now + 64)))).first), .int .u32 ((headL ([(⟨vip, 1024, dip, now + 64⟩ : Lease)].filter (findP vip (1024 + 8) (now + 64)))).dip), .int .i64 ((headL ([(⟨vip, 1024, dip, now + 64⟩ : Lease)].filter (findP vip (1024 + 8) (now + 64)))).exp)]), (54, .tuple #[.agg #[.int .u32 ((headL ([(⟨vip, 1024, dip, now + 64⟩ : Lease)].filter (findP vip (1024 + 8) (now + 64)))).vip), .int .i64 ((headL ([(⟨vip, 1024, dip, now + 64⟩ : Lease)].filter (findP vip (1024 + 8) (now + 64)))).first), .int .u32 ((headL ([(⟨vip, 1024, dip, now + 64⟩ : Lease)].filter (findP vip (1024 + 8) (now + 64)))).dip), .int .i64 ((headL ([(⟨vip, 1024, dip, now + 64⟩ : Lease)].filter (findP vip (1024 + 8) (now + 64)))).exp)], .bool (hasL ([(⟨vip, 1024, dip, now + 64⟩ : Lease)].filter (findP vip (1024 + 8) (now + 64))))])] (fun _ => by kernel_rfl) ?_
    refine WL.newM hC58 (fun b => .pointer (some ⟨b, 0, none⟩)) (.cells #[.int .u32 0, .int .i64 0, .int .u32 0, .int .i64 0] 27) 12 (fun _ => by kernel_rfl) (fun g60 w61 hb64 hF62 hC63 => ?_)
    have ho65 := own_fr ho59 hF62 (by simp)
    refine WL.storeM hC63 2 27 g60 0 (.agg #[.int .u32 ((headL ([(⟨vip, 1024, dip, now + 64⟩ : Lease)].filter (findP vip (1024 + 8) (now + 64)))).vip), .int .i64 ((headL ([(⟨vip, 1024, dip, now + 64⟩ : Lease)].filter (findP vip (1024 + 8) (now + 64)))).first), .int .u32 ((headL ([(⟨vip, 1024, dip, now + 64⟩ : Lease)].filter (findP vip (1024 + 8) (now + 64)))).dip), .int .i64 ((headL ([(⟨vip, 1024, dip, now + 64⟩ : Lease)].filter (findP vip (1024 + 8) (now + 64)))).exp)]) (by kernel_rfl) rfl rfl (fun w66 hF68 hC69 => ?_)
    have ho70 := own_fr ho65 hF68 (hC63.apartM 0 2 rfl rfl)
    refine WL.runs 1 [(13, .bool (hasL ([(⟨vip, 1024, dip, now + 64⟩ : Lease)].filter (findP vip (1024 + 8) (now + 64)))))] (fun _ => by kernel_rfl) ?_
    refine WL.done rfl ?_
    refine QX.then_normal (hK55 _ _ ?_)
    refine WC.seq (fun K71 hK72 => ?_)
    refine WC.region ?_
    refine WL.runs 3 [(68, .pointer (some ⟨g22, 1, none⟩)), (67, .int .u32 vip), (66, .slice A16 ([(⟨vip, 1024, dip, now + 64⟩ : Lease)].length) c17)] (fun _ => by kernel_rfl) ?_
    refine WL.load 3 (.pointer (some ⟨g22, 1, none⟩)) (.int .i64 1024) 69 (by kernel_rfl) (run_ld (hC69.get 0 rfl) rfl) ?_
    refine WL.runs 1 [(70, .pointer (some ⟨g22, 3, none⟩))] (fun _ => by kernel_rfl) ?_
    refine WL.load 3 (.pointer (some ⟨g22, 3, none⟩)) (.int .i64 (now + 64)) 71 (by kernel_rfl) (run_ld (hC69.get 0 rfl) rfl) ?_
    refine WL.runs 1 [(72, .int .i64 (IntKind.i64.wrap ((now + 64) + 1)))] (fun _ => by kernel_rfl) ?_
    refine WL.recast (show (.int .i64 (IntKind.i64.wrap ((now + 64) + 1)) : Value) = .int .i64 ((now + 64) + 1) from by rw [wrap_in_i64 ((now + 64) + 1) (by omega) (by omega)]) ?_
    refine WL.call rfl rfl rfl rfl rfl (by kernel_rfl) (Find_ct A16 c17 [(⟨vip, 1024, dip, now + 64⟩ : Lease)] vip 1024 ((now + 64) + 1) w66 (own_rd ho70 encL_len (by decide)) (okL_one (by simp only [okL]; omega)) (by first | omega | simp) (by omega)) ?_
    rintro _ w74 ⟨rfl, hF73⟩
    refine ⟨_, rfl, ?_⟩
    have hC75 := hC69.call hF73
    have ho76 := own_fr ho70 hF73 (by simp)
    refine WL.runs 3 [(75, .bool (hasL ([(⟨vip, 1024, dip, now + 64⟩ : Lease)].filter (findP vip 1024 ((now + 64) + 1))))), (74, .agg #[.int .u32 ((headL ([(⟨vip, 1024, dip, now + 64⟩ : Lease)].filter (findP vip 1024 ((now + 64) + 1)))).vip), .int .i64 ((headL ([(⟨vip, 1024, dip, now + 64⟩ : Lease)].filter (findP vip 1024 ((now + 64) + 1)))).first), .int .u32 ((headL ([(⟨vip, 1024, dip, now + 64⟩ : Lease)].filter (findP vip 1024 ((now + 64) + 1)))).dip), .int .i64 ((headL ([(⟨vip, 1024, dip, now + 64⟩ : Lease)].filter (findP vip 1024 ((now + 64) + 1)))).exp)]), (65, .tuple #[.agg #[.int .u32 ((headL ([(⟨vip, 1024, dip, now + 64⟩ : Lease)].filter (findP vip 1024 ((now + 64) + 1)))).vip), .int .i64 ((headL ([(⟨vip, 1024, dip, now + 64⟩ : Lease)].filter (findP vip 1024 ((now + 64) + 1)))).first), .int .u32 ((headL ([(⟨vip, 1024, dip, now + 64⟩ : Lease)].filter (findP vip 1024 ((now + 64) + 1)))).dip), .int .i64 ((headL ([(⟨vip, 1024, dip, now + 64⟩ : Lease)].filter (findP vip 1024 ((now + 64) + 1)))).exp)], .bool (hasL ([(⟨vip, 1024, dip, now + 64⟩ : Lease)].filter (findP vip 1024 ((now + 64) + 1))))])] (fun _ => by kernel_rfl) ?_
    refine WL.newM hC75 (fun b => .pointer (some ⟨b, 0, none⟩)) (.cells #[.int .u32 0, .int .i64 0, .int .u32 0, .int .i64 0] 27) 14 (fun _ => by kernel_rfl) (fun g77 w78 hb81 hF79 hC80 => ?_)
    have ho82 := own_fr ho76 hF79 (by simp)
    refine WL.storeM hC80 3 27 g77 0 (.agg #[.int .u32 ((headL ([(⟨vip, 1024, dip, now + 64⟩ : Lease)].filter (findP vip 1024 ((now + 64) + 1)))).vip), .int .i64 ((headL ([(⟨vip, 1024, dip, now + 64⟩ : Lease)].filter (findP vip 1024 ((now + 64) + 1)))).first), .int .u32 ((headL ([(⟨vip, 1024, dip, now + 64⟩ : Lease)].filter (findP vip 1024 ((now + 64) + 1)))).dip), .int .i64 ((headL ([(⟨vip, 1024, dip, now + 64⟩ : Lease)].filter (findP vip 1024 ((now + 64) + 1)))).exp)]) (by kernel_rfl) rfl rfl (fun w83 hF85 hC86 => ?_)
    have ho87 := own_fr ho82 hF85 (hC80.apartM 0 3 rfl rfl)
    refine WL.runs 1 [(15, .bool (hasL ([(⟨vip, 1024, dip, now + 64⟩ : Lease)].filter (findP vip 1024 ((now + 64) + 1)))))] (fun _ => by kernel_rfl) ?_
    refine WL.done rfl ?_
    refine QX.then_normal (hK72 _ _ ?_)
    refine WC.seq (fun K88 hK89 => ?_)
    refine WC.region ?_
    refine WL.runs 3 [(79, .pointer (some ⟨g22, 1, none⟩)), (78, .int .u32 vip), (77, .slice A16 ([(⟨vip, 1024, dip, now + 64⟩ : Lease)].length) c17)] (fun _ => by kernel_rfl) ?_
    refine WL.load 3 (.pointer (some ⟨g22, 1, none⟩)) (.int .i64 1024) 80 (by kernel_rfl) (run_ld (hC86.get 0 rfl) rfl) ?_
    refine WL.runs 1 [(81, .int .i64 (IntKind.i64.wrap (1024 - 1)))] (fun _ => by kernel_rfl) ?_
    refine WL.recast (show (.int .i64 (IntKind.i64.wrap (1024 - 1)) : Value) = .int .i64 (1024 - 1) from by rw [wrap_in_i64 (1024 - 1) (by omega) (by omega)]) ?_
    refine WL.runs 1 [(82, .int .i64 now)] (fun _ => by kernel_rfl) ?_
    refine WL.call rfl rfl rfl rfl rfl (by kernel_rfl) (Find_ct A16 c17 [(⟨vip, 1024, dip, now + 64⟩ : Lease)] vip (1024 - 1) now w83 (own_rd ho87 encL_len (by decide)) (okL_one (by simp only [okL]; omega)) (by first | omega | simp) (by omega)) ?_
    rintro _ w91 ⟨rfl, hF90⟩
    refine ⟨_, rfl, ?_⟩
    have hC92 := hC86.call hF90
    have ho93 := own_fr ho87 hF90 (by simp)
    refine WL.runs 3 [(85, .bool (hasL ([(⟨vip, 1024, dip, now + 64⟩ : Lease)].filter (findP vip (1024 - 1) now)))), (84, .agg #[.int .u32 ((headL ([(⟨vip, 1024, dip, now + 64⟩ : Lease)].filter (findP vip (1024 - 1) now))).vip), .int .i64 ((headL ([(⟨vip, 1024, dip, now + 64⟩ : Lease)].filter (findP vip (1024 - 1) now))).first), .int .u32 ((headL ([(⟨vip, 1024, dip, now + 64⟩ : Lease)].filter (findP vip (1024 - 1) now))).dip), .int .i64 ((headL ([(⟨vip, 1024, dip, now + 64⟩ : Lease)].filter (findP vip (1024 - 1) now))).exp)]), (76, .tuple #[.agg #[.int .u32 ((headL ([(⟨vip, 1024, dip, now + 64⟩ : Lease)].filter (findP vip (1024 - 1) now))).vip), .int .i64 ((headL ([(⟨vip, 1024, dip, now + 64⟩ : Lease)].filter (findP vip (1024 - 1) now))).first), .int .u32 ((headL ([(⟨vip, 1024, dip, now + 64⟩ : Lease)].filter (findP vip (1024 - 1) now))).dip), .int .i64 ((headL ([(⟨vip, 1024, dip, now + 64⟩ : Lease)].filter (findP vip (1024 - 1) now))).exp)], .bool (hasL ([(⟨vip, 1024, dip, now + 64⟩ : Lease)].filter (findP vip (1024 - 1) now)))])] (fun _ => by kernel_rfl) ?_
    refine WL.newM hC92 (fun b => .pointer (some ⟨b, 0, none⟩)) (.cells #[.int .u32 0, .int .i64 0, .int .u32 0, .int .i64 0] 27) 16 (fun _ => by kernel_rfl) (fun g94 w95 hb98 hF96 hC97 => ?_)
    have ho99 := own_fr ho93 hF96 (by simp)
    refine WL.storeM hC97 4 27 g94 0 (.agg #[.int .u32 ((headL ([(⟨vip, 1024, dip, now + 64⟩ : Lease)].filter (findP vip (1024 - 1) now))).vip), .int .i64 ((headL ([(⟨vip, 1024, dip, now + 64⟩ : Lease)].filter (findP vip (1024 - 1) now))).first), .int .u32 ((headL ([(⟨vip, 1024, dip, now + 64⟩ : Lease)].filter (findP vip (1024 - 1) now))).dip), .int .i64 ((headL ([(⟨vip, 1024, dip, now + 64⟩ : Lease)].filter (findP vip (1024 - 1) now))).exp)]) (by kernel_rfl) rfl rfl (fun w100 hF102 hC103 => ?_)
    have ho104 := own_fr ho99 hF102 (hC97.apartM 0 4 rfl rfl)
    refine WL.runs 1 [(17, .bool (hasL ([(⟨vip, 1024, dip, now + 64⟩ : Lease)].filter (findP vip (1024 - 1) now))))] (fun _ => by kernel_rfl) ?_
    refine WL.done rfl ?_
    refine QX.then_normal (hK89 _ _ ?_)
    refine WC.seq (fun K105 hK106 => ?_)
    refine WC.region ?_
    refine WL.runs 2 [(87, .bool (hasL ([(⟨vip, 1024, dip, now + 64⟩ : Lease)].filter (findP vip (1024 + 7) (now + 64))))), (86, .bool (hasL ([(⟨vip, 1024, dip, now + 64⟩ : Lease)].filter (findP vip (1024 + 7) (now + 64)))))] (fun _ => by kernel_rfl) ?_
    refine WL.know 87 (.bool (hasL ([(⟨vip, 1024, dip, now + 64⟩ : Lease)].filter (findP vip (1024 + 7) (now + 64))))) (.bool true) rfl (congrArg Value.bool (by first | (simp only [hasL_one, len_one, findP, ofP, pruneP, livesB]; grind) | (simp [hasL, findP, ofP, pruneP, livesB, List.filter] <;> omega))) ?_
    refine WL.runs 4 [(91, .bool (!(hasL ([(⟨vip, 1024, dip, now + 64⟩ : Lease)].filter (findP vip (1024 + 8) (now + 64)))))), (90, .bool (!(hasL ([(⟨vip, 1024, dip, now + 64⟩ : Lease)].filter (findP vip (1024 + 8) (now + 64)))))), (89, .bool (!(hasL ([(⟨vip, 1024, dip, now + 64⟩ : Lease)].filter (findP vip (1024 + 8) (now + 64)))))), (88, .bool (hasL ([(⟨vip, 1024, dip, now + 64⟩ : Lease)].filter (findP vip (1024 + 8) (now + 64)))))] (fun _ => by kernel_rfl) ?_
    refine WL.know 91 (.bool (!(hasL ([(⟨vip, 1024, dip, now + 64⟩ : Lease)].filter (findP vip (1024 + 8) (now + 64)))))) (.bool true) rfl (congrArg Value.bool (by first | (simp only [hasL_one, len_one, findP, ofP, pruneP, livesB]; grind) | (simp [hasL, findP, ofP, pruneP, livesB, List.filter] <;> omega))) ?_
    refine WL.runs 4 [(95, .bool (!(hasL ([(⟨vip, 1024, dip, now + 64⟩ : Lease)].filter (findP vip 1024 ((now + 64) + 1)))))), (94, .bool (!(hasL ([(⟨vip, 1024, dip, now + 64⟩ : Lease)].filter (findP vip 1024 ((now + 64) + 1)))))), (93, .bool (!(hasL ([(⟨vip, 1024, dip, now + 64⟩ : Lease)].filter (findP vip 1024 ((now + 64) + 1)))))), (92, .bool (hasL ([(⟨vip, 1024, dip, now + 64⟩ : Lease)].filter (findP vip 1024 ((now + 64) + 1)))))] (fun _ => by kernel_rfl) ?_
    refine WL.know 95 (.bool (!(hasL ([(⟨vip, 1024, dip, now + 64⟩ : Lease)].filter (findP vip 1024 ((now + 64) + 1)))))) (.bool true) rfl (congrArg Value.bool (by first | (simp only [hasL_one, len_one, findP, ofP, pruneP, livesB]; grind) | (simp [hasL, findP, ofP, pruneP, livesB, List.filter] <;> omega))) ?_
    refine WL.runs 4 [(99, .bool (!(hasL ([(⟨vip, 1024, dip, now + 64⟩ : Lease)].filter (findP vip (1024 - 1) now))))), (98, .bool (!(hasL ([(⟨vip, 1024, dip, now + 64⟩ : Lease)].filter (findP vip (1024 - 1) now))))), (97, .bool (!(hasL ([(⟨vip, 1024, dip, now + 64⟩ : Lease)].filter (findP vip (1024 - 1) now))))), (96, .bool (hasL ([(⟨vip, 1024, dip, now + 64⟩ : Lease)].filter (findP vip (1024 - 1) now))))] (fun _ => by kernel_rfl) ?_
    refine WL.know 99 (.bool (!(hasL ([(⟨vip, 1024, dip, now + 64⟩ : Lease)].filter (findP vip (1024 - 1) now))))) (.bool true) rfl (congrArg Value.bool (by first | (simp only [hasL_one, len_one, findP, ofP, pruneP, livesB]; grind) | (simp [hasL, findP, ofP, pruneP, livesB, List.filter] <;> omega))) ?_
    refine WL.runs 1 [(100, .pointer (some ⟨g22, 3, none⟩))] (fun _ => by kernel_rfl) ?_
    refine WL.load 3 (.pointer (some ⟨g22, 3, none⟩)) (.int .i64 (now + 64)) 101 (by kernel_rfl) (run_ld (hC103.get 0 rfl) rfl) ?_
    refine WL.runs 2 [(103, .int .i64 (IntKind.i64.wrap (now + 64))), (102, .int .i64 now)] (fun _ => by kernel_rfl) ?_
    refine WL.recast (show (.int .i64 (IntKind.i64.wrap (now + 64)) : Value) = .int .i64 (now + 64) from by rw [wrap_in_i64 (now + 64) (by omega) (by omega)]) ?_
    refine WL.runs 3 [(106, .bool ((now + 64) == (now + 64))), (105, .bool ((now + 64) == (now + 64))), (104, .bool ((now + 64) == (now + 64)))] (fun _ => by kernel_rfl) ?_
    refine WL.know 106 (.bool ((now + 64) == (now + 64))) (.bool true) rfl (congrArg Value.bool (by first | (simp only [hasL_one, len_one, findP, ofP, pruneP, livesB]; grind) | (simp [hasL, findP, ofP, pruneP, livesB, List.filter] <;> omega))) ?_
    refine WL.runs 2 [(108, .pointer (some ⟨g22, 3, none⟩)), (107, .slice A16 ([(⟨vip, 1024, dip, now + 64⟩ : Lease)].length) c17)] (fun _ => by kernel_rfl) ?_
    refine WL.load 3 (.pointer (some ⟨g22, 3, none⟩)) (.int .i64 (now + 64)) 109 (by kernel_rfl) (run_ld (hC103.get 0 rfl) rfl) ?_
    refine WL.call rfl rfl rfl rfl rfl (by kernel_rfl) (Prune_ct A16 c17 [(⟨vip, 1024, dip, now + 64⟩ : Lease)] (now + 64) w100 (own_rd ho104 encL_len (by decide)) (okL_one (by simp only [okL]; omega)) (by first | omega | simp)) ?_
    rintro _ w109 ⟨v_, rfl, hF108, ho107⟩
    have hC110 := hC103.callN hF108 (own_ge ho107) (own_lt ho107)
    obtain ⟨A111, c112, rfl, hle113⟩ := own_form ho107
    have ho115 := own_base (b' := 0) ho107 (fun _ _ => Nat.zero_le _)
    refine ⟨_, rfl, ?_⟩
    have ho116 := own_fr ho104 hF108 (by simp)
    refine WL.runs 4 [(114, .bool ((([(⟨vip, 1024, dip, now + 64⟩ : Lease)].filter (pruneP (now + 64))).length : Int) == 1)), (113, .bool ((([(⟨vip, 1024, dip, now + 64⟩ : Lease)].filter (pruneP (now + 64))).length : Int) == 1)), (112, .bool ((([(⟨vip, 1024, dip, now + 64⟩ : Lease)].filter (pruneP (now + 64))).length : Int) == 1)), (111, .int .i64 (([(⟨vip, 1024, dip, now + 64⟩ : Lease)].filter (pruneP (now + 64))).length : Int))] (fun _ => by kernel_rfl) ?_
    refine WL.know 114 (.bool ((([(⟨vip, 1024, dip, now + 64⟩ : Lease)].filter (pruneP (now + 64))).length : Int) == 1)) (.bool true) rfl (congrArg Value.bool (by first | (simp only [hasL_one, len_one, findP, ofP, pruneP, livesB]; grind) | (simp [hasL, findP, ofP, pruneP, livesB, List.filter] <;> omega))) ?_
    refine WL.runs 2 [(116, .pointer (some ⟨g22, 3, none⟩)), (115, .slice A16 ([(⟨vip, 1024, dip, now + 64⟩ : Lease)].length) c17)] (fun _ => by kernel_rfl) ?_
    refine WL.load 3 (.pointer (some ⟨g22, 3, none⟩)) (.int .i64 (now + 64)) 117 (by kernel_rfl) (run_ld (hC110.get 0 rfl) rfl) ?_
    refine WL.runs 1 [(118, .int .i64 (IntKind.i64.wrap ((now + 64) + 1)))] (fun _ => by kernel_rfl) ?_
    refine WL.recast (show (.int .i64 (IntKind.i64.wrap ((now + 64) + 1)) : Value) = .int .i64 ((now + 64) + 1) from by rw [wrap_in_i64 ((now + 64) + 1) (by omega) (by omega)]) ?_
    refine WL.call rfl rfl rfl rfl rfl (by kernel_rfl) (Prune_ct A16 c17 [(⟨vip, 1024, dip, now + 64⟩ : Lease)] ((now + 64) + 1) w109 (own_rd ho116 encL_len (by decide)) (okL_one (by simp only [okL]; omega)) (by first | omega | simp)) ?_
    rintro _ w120 ⟨v_, rfl, hF119, ho118⟩
    have hC121 := hC110.callN hF119 (own_ge ho118) (own_lt ho118)
    obtain ⟨A122, c123, rfl, hle124⟩ := own_form ho118
    have ho126 := own_base (b' := 0) ho118 (fun _ _ => Nat.zero_le _)
    refine ⟨_, rfl, ?_⟩
    have ho127 := own_fr ho116 hF119 (by simp)
    have ho128 := own_fr ho115 hF119 (by simp)
    refine WL.runs 4 [(123, .bool ((([(⟨vip, 1024, dip, now + 64⟩ : Lease)].filter (pruneP ((now + 64) + 1))).length : Int) == 0)), (122, .bool ((([(⟨vip, 1024, dip, now + 64⟩ : Lease)].filter (pruneP ((now + 64) + 1))).length : Int) == 0)), (121, .bool ((([(⟨vip, 1024, dip, now + 64⟩ : Lease)].filter (pruneP ((now + 64) + 1))).length : Int) == 0)), (120, .int .i64 (([(⟨vip, 1024, dip, now + 64⟩ : Lease)].filter (pruneP ((now + 64) + 1))).length : Int))] (fun _ => by kernel_rfl) ?_
    refine WL.know 123 (.bool ((([(⟨vip, 1024, dip, now + 64⟩ : Lease)].filter (pruneP ((now + 64) + 1))).length : Int) == 0)) (.bool true) rfl (congrArg Value.bool (by first | (simp only [hasL_one, len_one, findP, ofP, pruneP, livesB]; grind) | (simp [hasL, findP, ofP, pruneP, livesB, List.filter] <;> omega))) ?_
    refine WL.runs 3 [(126, .pointer (some ⟨g22, 3, none⟩)), (125, .int .u32 dip), (124, .slice A16 ([(⟨vip, 1024, dip, now + 64⟩ : Lease)].length) c17)] (fun _ => by kernel_rfl) ?_
    refine WL.load 3 (.pointer (some ⟨g22, 3, none⟩)) (.int .i64 (now + 64)) 127 (by kernel_rfl) (run_ld (hC121.get 0 rfl) rfl) ?_
    refine WL.call rfl rfl rfl rfl rfl (by kernel_rfl) (Of_ct A16 c17 [(⟨vip, 1024, dip, now + 64⟩ : Lease)] dip (now + 64) w120 (own_rd ho127 encL_len (by decide)) (okL_one (by simp only [okL]; omega)) (by first | omega | simp)) ?_
    rintro _ w132 ⟨v_, rfl, hF131, ho130⟩
    have hC133 := hC121.callN hF131 (own_ge ho130) (own_lt ho130)
    obtain ⟨A134, c135, rfl, hle136⟩ := own_form ho130
    have ho138 := own_base (b' := 0) ho130 (fun _ _ => Nat.zero_le _)
    refine ⟨_, rfl, ?_⟩
    have ho139 := own_fr ho127 hF131 (by simp)
    have ho140 := own_fr ho128 hF131 (by simp)
    have ho141 := own_fr ho126 hF131 (by simp)
    refine WL.runs 4 [(6, .bool ((([(⟨vip, 1024, dip, now + 64⟩ : Lease)].filter (ofP dip (now + 64))).length : Int) == 1)), (131, .bool ((([(⟨vip, 1024, dip, now + 64⟩ : Lease)].filter (ofP dip (now + 64))).length : Int) == 1)), (130, .bool ((([(⟨vip, 1024, dip, now + 64⟩ : Lease)].filter (ofP dip (now + 64))).length : Int) == 1)), (129, .int .i64 (([(⟨vip, 1024, dip, now + 64⟩ : Lease)].filter (ofP dip (now + 64))).length : Int))] (fun _ => by kernel_rfl) ?_
    refine WL.done rfl ?_
    refine QX.then_normal (hK106 _ _ ?_)
    refine WC.ret ?_
    refine (hret _ _ _ rfl ?_).1
    clear hN hret hret' hK106 hK89 hK72 hK55 hK38 hK36 hK34 hK11 hK6 hK4 hK2
    exact ⟨congrArg (fun b_ => Ending.returned (Value.bool b_)) (show ((([(⟨vip, 1024, dip, now + 64⟩ : Lease)].filter (ofP dip (now + 64))).length : Int) == 1) = true from by first | (simp only [hasL_one, len_one, findP, ofP, pruneP, livesB]; grind) | (simp [hasL, findP, ofP, pruneP, livesB, List.filter] <;> omega)), hC133.fr⟩
  ·
    have hne : grE [] vip dip now ≠ 0 := by rw [hE]; decide
    refine WL.call rfl rfl rfl rfl rfl (by kernel_rfl) (Grant_is none 0 [] vip dip now w8 (Rd.nil _ _ _ _) (by simp) (by simp) (by omega) (by omega) (Rd.fr hg hC9.fr) (⟨0, 0, 0, 0⟩ : Lease) ([] : List Lease) 9 hE (grL_err hne) (grX_err hne)) ?_
    rintro _ w145 ⟨v_, rfl, hF144, ho143⟩
    have hC146 := hC9.callN hF144 (own_ge ho143) (own_lt ho143)
    obtain ⟨A147, c148, rfl, hle149⟩ := own_form ho143
    have ho151 := own_base (b' := 0) ho143 (fun _ _ => Nat.zero_le _)
    refine ⟨_, rfl, ?_⟩
    refine WL.runs 4 [(27, .iface 32 (.int .i64 9)), (26, .agg #[.int .u32 0, .int .i64 0, .int .u32 0, .int .i64 0]), (25, .slice A147 (([] : List Lease).length) c148), (20, .tuple #[.slice A147 (([] : List Lease).length) c148, .agg #[.int .u32 0, .int .i64 0, .int .u32 0, .int .i64 0], .iface 32 (.int .i64 9)])] (fun _ => by kernel_rfl) ?_
    refine WL.newM hC146 (fun b => .pointer (some ⟨b, 0, none⟩)) (.cells #[.int .u32 0, .int .i64 0, .int .u32 0, .int .i64 0] 27) 8 (fun _ => by kernel_rfl) (fun g153 w154 hb157 hF155 hC156 => ?_)
    have ho158 := own_fr ho151 hF155 (by simp)
    refine WL.runs 1 [(7, .slice A147 (([] : List Lease).length) c148)] (fun _ => by kernel_rfl) ?_
    refine WL.storeM hC156 0 27 g153 0 (.agg #[.int .u32 0, .int .i64 0, .int .u32 0, .int .i64 0]) (by kernel_rfl) rfl rfl (fun w159 hF161 hC162 => ?_)
    have ho163 := own_fr ho158 hF161 (hC156.apartM 0 0 rfl rfl)
    refine WL.runs 1 [(9, .iface 32 (.int .i64 9))] (fun _ => by kernel_rfl) ?_
    refine WL.done rfl ?_
    refine QX.then_normal (hK11 _ _ ?_)
    refine WC.seq (fun K164 hK165 => ?_)
    refine WC.seq (fun K166 hK167 => ?_)
    refine WC.region ?_
    refine WL.runs 2 [(29, .bool true), (28, .iface 32 (.int .i64 9))] (fun _ => by kernel_rfl) ?_
    refine WL.done rfl ?_
    refine QX.then_normal (hK167 _ _ ?_)
    refine WC.cond_true rfl ?_
    refine WC.seq (fun K168 hK169 => ?_)
    refine WC.region ?_
    refine WL.runs 4 [(33, .bool ((([] : List Lease).length : Int) == 0)), (32, .bool ((([] : List Lease).length : Int) == 0)), (31, .int .i64 (([] : List Lease).length : Int)), (30, .slice A147 (([] : List Lease).length) c148)] (fun _ => by kernel_rfl) ?_
    refine WL.know 33 (.bool ((([] : List Lease).length : Int) == 0)) (.bool true) rfl (congrArg Value.bool (by first | (simp only [hasL_one, len_one, findP, ofP, pruneP, livesB]; grind) | (simp [hasL, findP, ofP, pruneP, livesB, List.filter] <;> omega))) ?_
    refine WL.runs 5 [(38, .bool true), (37, .bool true), (36, .bool true), (35, .iface 32 (.int .i64 9)), (34, .iface 32 (.int .i64 9))] (fun _ => by kernel_rfl) ?_
    refine WL.load 27 (.pointer (some ⟨g153, 0, none⟩)) (.agg #[.int .u32 0, .int .i64 0, .int .u32 0, .int .i64 0]) 39 (by kernel_rfl) (run_ld (hC162.get 0 rfl) rfl) ?_
    refine WL.runs 1 [(40, .agg #[.int .u32 0, .int .i64 0, .int .u32 0, .int .i64 0])] (fun _ => by kernel_rfl) ?_
    have hr170 : ∀ w_, Sem.run Tryd.prog (do eqGuard .eql 27 (Operand.tmp 39) (Operand.tmp 40) (.agg #[.int .u32 0, .int .i64 0, .int .u32 0, .int .i64 0]) (.agg #[.int .u32 0, .int .i64 0, .int .u32 0, .int .i64 0]); binOp .eql 27 (.agg #[.int .u32 0, .int .i64 0, .int .u32 0, .int .i64 0]) (.agg #[.int .u32 0, .int .i64 0, .int .u32 0, .int .i64 0])) w_ = .ok (.bool ((0 : Int) == (0 : Int) && ((0 : Int) == (0 : Int) && ((0 : Int) == (0 : Int) && ((0 : Int) == (0 : Int) && true))))) w_ := fun w_ => (run_eql_S (by kernel_rfl))
    refine WL.sem (do eqGuard .eql 27 (Operand.tmp 39) (Operand.tmp 40) (.agg #[.int .u32 0, .int .i64 0, .int .u32 0, .int .i64 0]) (.agg #[.int .u32 0, .int .i64 0, .int .u32 0, .int .i64 0]); binOp .eql 27 (.agg #[.int .u32 0, .int .i64 0, .int .u32 0, .int .i64 0]) (.agg #[.int .u32 0, .int .i64 0, .int .u32 0, .int .i64 0])) 41 (.bool ((0 : Int) == (0 : Int) && ((0 : Int) == (0 : Int) && ((0 : Int) == (0 : Int) && ((0 : Int) == (0 : Int) && true))))) (by kernel_rfl) (hr170 _) ?_
    refine WL.runs 2 [(6, .bool ((0 : Int) == (0 : Int) && ((0 : Int) == (0 : Int) && ((0 : Int) == (0 : Int) && ((0 : Int) == (0 : Int) && true))))), (42, .bool ((0 : Int) == (0 : Int) && ((0 : Int) == (0 : Int) && ((0 : Int) == (0 : Int) && ((0 : Int) == (0 : Int) && true)))))] (fun _ => by kernel_rfl) ?_
    refine WL.done rfl ?_
    refine QX.then_normal (hK169 _ _ ?_)
    refine WC.ret ?_
    refine QX.then_ret ?_
    refine (hret _ _ _ rfl ?_).1
    clear hN hret hret' hK169 hK167 hK165 hK11 hK6 hK4 hK2
    exact ⟨congrArg (fun b_ => Ending.returned (Value.bool b_)) (show (((0 : Int) == (0 : Int) && ((0 : Int) == (0 : Int) && ((0 : Int) == (0 : Int) && ((0 : Int) == (0 : Int) && true))))) = true from by first | (simp only [hasL_one, len_one, findP, ofP, pruneP, livesB]; grind) | (simp [hasL, findP, ofP, pruneP, livesB, List.filter] <;> omega)), hC162.fr⟩

end Go.Proofs.YtoambminolcgfaaDoor
