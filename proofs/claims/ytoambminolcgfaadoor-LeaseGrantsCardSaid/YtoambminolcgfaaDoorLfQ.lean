/- Contracts of functions of the program, each proved by a walk through its code; conditions stand in the statements. -/
import Derived.Test.YtoambminolcgfaaDoorLfP
namespace Go.Proofs.YtoambminolcgfaaDoor
set_option linter.unusedSimpArgs false
set_option linter.unusedVariables false
set_option linter.unusedSectionVars false
open Go Go.RowKit Go.Tw
set_option linter.unusedVariables false
theorem Grant2_ct (A : Option Addr) (c : Nat) (xs : List Lease) (vip dip now : Int) (w : World) (hr : Rd w 4 encL A xs) (hwf : ∀ l ∈ xs, okL l) (hm : xs.length < 2 ^ 39) (hvip : 0 ≤ vip ∧ vip ≤ 4294967295) (hdip : 0 ≤ dip ∧ dip ≤ 4294967295) : Calls Tryd.prog 21 #[.slice A xs.length c, .int .u32 vip, .int .u32 dip, .int .i64 now] w fun e w' => ∃ v, e = .returned (.tuple #[v, .agg #[.int .u32 ((grL xs vip dip now).vip), .int .i64 ((grL xs vip dip now).first), .int .u32 ((grL xs vip dip now).dip), .int .i64 ((grL xs vip dip now).exp)], .int .i64 (grE xs vip dip now)]) ∧ Fr w w' [] ∧ w'.ownsRow w.heap.size 27 4 v (grX xs vip dip now).length ((grX xs vip dip now).flatMap encL) := by
  refine enterD (n := 74) Tryd.func21 rfl rfl (Nat.le_of_ble_eq_true rfl) ?_
  intro Q0 hN hret hret'
  have hC := Cx.start w
  refine WC.seq (fun K1 hK2 => ?_)
  refine WC.region ?_
  refine WL.runs 1 [(8, .slice none 0 0)] (fun _ => by kernel_rfl) ?_
  refine WL.newM hC (fun b => .pointer (some ⟨b, 0, none⟩)) (.cells #[.int .u32 0, .int .i64 0, .int .u32 0, .int .i64 0] 27) 9 (fun _ => by kernel_rfl) (fun g3 w4 hb7 hF5 hC6 => ?_)
  refine WL.runs 1 [(10, .int .i64 0)] (fun _ => by kernel_rfl) ?_
  refine WL.done rfl ?_
  refine QX.then_normal (hK2 _ _ ?_)
  refine WC.seq (fun K8 hK9 => ?_)
  refine WC.region ?_
  refine WL.runs 1 [(19, .int .u32 dip)] (fun _ => by kernel_rfl) ?_
  refine WL.call rfl rfl rfl rfl rfl (by kernel_rfl) (Home2_ct dip w4 (by omega) (by omega)) ?_
  rintro _ w13 ⟨h10, v11, rfl, hF12⟩
  refine ⟨_, rfl, ?_⟩
  have hC14 := hC6.call hF12
  refine WL.runs 7 [(13, .bool (isHome dip)), (12, .int .i64 v11), (11, .int .i64 h10), (23, .bool (isHome dip)), (22, .int .i64 v11), (21, .int .i64 h10), (18, .tuple #[.int .i64 h10, .int .i64 v11, .bool (isHome dip)])] (fun _ => by kernel_rfl) ?_
  refine WL.done rfl ?_
  refine QX.then_normal (hK9 _ _ ?_)
  refine WC.seq (fun K15 hK16 => ?_)
  refine WC.seq (fun K17 hK18 => ?_)
  refine WC.region ?_
  refine WL.runs 1 [(24, .slice A xs.length c)] (fun _ => by kernel_rfl) ?_
  refine WL.call rfl rfl rfl rfl rfl (by kernel_rfl) (Good2_ct A c xs w13 (Rd.fr hr hC14.fr) hwf (by omega)) ?_
  rintro _ w20 ⟨rfl, hF19⟩
  refine ⟨_, rfl, ?_⟩
  have hC21 := hC14.call hF19
  refine WL.runs 2 [(27, .bool (!(checkL xs))), (26, .bool (!(checkL xs)))] (fun _ => by kernel_rfl) ?_
  refine WL.test_at 27 (!(checkL xs)) rfl (fun t22b => ?_) (fun t22b => ?_)
  · -- (!(checkL xs)) = true: true
    have t22 : (checkL xs) = false := by first | (simpa only [Bool.not_eq_true', Bool.not_eq_false'] using t22b) | simpa using t22b
    refine WL.runs 13 [(40, .bool true), (39, undef), (38, undef), (37, undef), (36, .bool true), (35, .bool true), (34, undef), (33, undef), (32, undef), (31, .bool true), (30, .bool true), (29, undef), (28, undef)] (fun _ => by kernel_rfl) ?_
    refine WL.done rfl ?_
    refine QX.then_normal (hK18 _ _ ?_)
    refine WC.cond_true rfl ?_
    refine WC.seq (fun K23 hK24 => ?_)
    refine WC.region ?_
    refine WL.runs 2 [(8, .slice none 0 0), (41, .agg #[.int .u32 0, .int .i64 0, .int .u32 0, .int .i64 0])] (fun _ => by kernel_rfl) ?_
    refine WL.storeM hC21 0 27 g3 0 (.agg #[.int .u32 0, .int .i64 0, .int .u32 0, .int .i64 0]) (by kernel_rfl) rfl rfl (fun w25 hF27 hC28 => ?_)
    refine WL.runs 1 [(10, .int .i64 9)] (fun _ => by kernel_rfl) ?_
    refine WL.done rfl ?_
    refine QX.then_normal (hK24 _ _ ?_)
    refine WC.ret ?_
    refine QX.then_ret ?_
    refine (hret' _ _ (.tuple #[.slice none 0 0, .agg #[.int .u32 0, .int .i64 0, .int .u32 0, .int .i64 0], .int .i64 9]) (fun a ha => ?_) ?_).1
    · exact res_run ha ((ResR.tmp rfl (ResR.cell rfl (run_ld (hC28.get 0 rfl) rfl) (ResR.tmp rfl ResR.nil)))) rfl
    clear hN hret hret' hK24 hK18 hK16 hK9 hK2
    have hE_ : grE xs vip dip now = 9 := by
      simp [grE, t22, t22b, goodL_ask] <;> (try (intros; omega))
    have hL_ : grL xs vip dip now = ⟨0, 0, 0, 0⟩ := by simp [grL, hE_]
    have hX_ : grX xs vip dip now = [] := by simp [grX, hE_]
    rw [hE_, hL_, hX_]
    exact ⟨_, rfl, hC28.fr, own_nil _ _ _ _⟩
  · -- (!(checkL xs)) = true: false
    have t22 : (checkL xs) = true := by first | (simpa only [Bool.not_eq_true', Bool.not_eq_false'] using t22b) | simpa using t22b
    refine WL.runs 4 [(31, .bool (!(isHome dip))), (30, .bool (!(isHome dip))), (29, .bool (!(isHome dip))), (28, .bool (isHome dip))] (fun _ => by kernel_rfl) ?_
    refine WL.test_at 31 (!(isHome dip)) rfl (fun t29b => ?_) (fun t29b => ?_)
    · -- (!(isHome dip)) = true: true
      have t29 : (isHome dip) = false := by first | (simpa only [Bool.not_eq_true', Bool.not_eq_false'] using t29b) | simpa using t29b
      refine WL.runs 9 [(40, .bool true), (39, undef), (38, undef), (37, undef), (36, .bool true), (35, .bool true), (34, undef), (33, undef), (32, undef)] (fun _ => by kernel_rfl) ?_
      refine WL.done rfl ?_
      refine QX.then_normal (hK18 _ _ ?_)
      refine WC.cond_true rfl ?_
      refine WC.seq (fun K30 hK31 => ?_)
      refine WC.region ?_
      refine WL.runs 2 [(8, .slice none 0 0), (41, .agg #[.int .u32 0, .int .i64 0, .int .u32 0, .int .i64 0])] (fun _ => by kernel_rfl) ?_
      refine WL.storeM hC21 0 27 g3 0 (.agg #[.int .u32 0, .int .i64 0, .int .u32 0, .int .i64 0]) (by kernel_rfl) rfl rfl (fun w32 hF34 hC35 => ?_)
      refine WL.runs 1 [(10, .int .i64 9)] (fun _ => by kernel_rfl) ?_
      refine WL.done rfl ?_
      refine QX.then_normal (hK31 _ _ ?_)
      refine WC.ret ?_
      refine QX.then_ret ?_
      refine (hret' _ _ (.tuple #[.slice none 0 0, .agg #[.int .u32 0, .int .i64 0, .int .u32 0, .int .i64 0], .int .i64 9]) (fun a ha => ?_) ?_).1
      · exact res_run ha ((ResR.tmp rfl (ResR.cell rfl (run_ld (hC35.get 0 rfl) rfl) (ResR.tmp rfl ResR.nil)))) rfl
      clear hN hret hret' hK31 hK18 hK16 hK9 hK2
      have hE_ : grE xs vip dip now = 9 := by
        simp [grE, t22, t22b, t29, t29b, goodL_ask] <;> (try (intros; omega))
      have hL_ : grL xs vip dip now = ⟨0, 0, 0, 0⟩ := by simp [grL, hE_]
      have hX_ : grX xs vip dip now = [] := by simp [grX, hE_]
      rw [hE_, hL_, hX_]
      exact ⟨_, rfl, hC35.fr, own_nil _ _ _ _⟩
    · -- (!(isHome dip)) = true: false
      have t29 : (isHome dip) = true := by first | (simpa only [Bool.not_eq_true', Bool.not_eq_false'] using t29b) | simpa using t29b
      refine WL.runs 1 [(32, .int .u32 vip)] (fun _ => by kernel_rfl) ?_
      refine WL.call rfl rfl rfl rfl rfl (by kernel_rfl) (IsVip2_ct vip w20 (by omega) (by omega)) ?_
      rintro _ w37 ⟨rfl, hF36⟩
      refine ⟨_, rfl, ?_⟩
      have hC38 := hC21.call hF36
      refine WL.runs 3 [(36, .bool (!(isVip vip))), (35, .bool (!(isVip vip))), (34, .bool (!(isVip vip)))] (fun _ => by kernel_rfl) ?_
      refine WL.test_at 36 (!(isVip vip)) rfl (fun t39b => ?_) (fun t39b => ?_)
      · -- (!(isVip vip)) = true: true
        have t39 : (isVip vip) = false := by first | (simpa only [Bool.not_eq_true', Bool.not_eq_false'] using t39b) | simpa using t39b
        refine WL.runs 4 [(40, .bool true), (39, undef), (38, undef), (37, undef)] (fun _ => by kernel_rfl) ?_
        refine WL.done rfl ?_
        refine QX.then_normal (hK18 _ _ ?_)
        refine WC.cond_true rfl ?_
        refine WC.seq (fun K40 hK41 => ?_)
        refine WC.region ?_
        refine WL.runs 2 [(8, .slice none 0 0), (41, .agg #[.int .u32 0, .int .i64 0, .int .u32 0, .int .i64 0])] (fun _ => by kernel_rfl) ?_
        refine WL.storeM hC38 0 27 g3 0 (.agg #[.int .u32 0, .int .i64 0, .int .u32 0, .int .i64 0]) (by kernel_rfl) rfl rfl (fun w42 hF44 hC45 => ?_)
        refine WL.runs 1 [(10, .int .i64 9)] (fun _ => by kernel_rfl) ?_
        refine WL.done rfl ?_
        refine QX.then_normal (hK41 _ _ ?_)
        refine WC.ret ?_
        refine QX.then_ret ?_
        refine (hret' _ _ (.tuple #[.slice none 0 0, .agg #[.int .u32 0, .int .i64 0, .int .u32 0, .int .i64 0], .int .i64 9]) (fun a ha => ?_) ?_).1
        · exact res_run ha ((ResR.tmp rfl (ResR.cell rfl (run_ld (hC45.get 0 rfl) rfl) (ResR.tmp rfl ResR.nil)))) rfl
        clear hN hret hret' hK41 hK18 hK16 hK9 hK2
        have hE_ : grE xs vip dip now = 9 := by
          simp [grE, t22, t22b, t29, t29b, t39, t39b, goodL_ask] <;> (try (intros; omega))
        have hL_ : grL xs vip dip now = ⟨0, 0, 0, 0⟩ := by simp [grL, hE_]
        have hX_ : grX xs vip dip now = [] := by simp [grX, hE_]
        rw [hE_, hL_, hX_]
        exact ⟨_, rfl, hC45.fr, own_nil _ _ _ _⟩
      · -- (!(isVip vip)) = true: false
        have t39 : (isVip vip) = true := by first | (simpa only [Bool.not_eq_true', Bool.not_eq_false'] using t39b) | simpa using t39b
        refine WL.runs 1 [(37, .int .i64 now)] (fun _ => by kernel_rfl) ?_
        refine WL.call rfl rfl rfl rfl rfl (by kernel_rfl) (time2_ct now w37) ?_
        rintro _ w47 ⟨rfl, hF46⟩
        refine ⟨_, rfl, ?_⟩
        have hC48 := hC38.call hF46
        refine WL.runs 2 [(40, .bool (!(goodTime now))), (39, .bool (!(goodTime now)))] (fun _ => by kernel_rfl) ?_
        refine WL.done rfl ?_
        refine QX.then_normal (hK18 _ _ ?_)
        refine WC.test_at 40 (!(goodTime now)) rfl (fun t49b => ?_) (fun t49b => ?_)
        · -- (!(goodTime now)) = true: true
          have t49 : (goodTime now) = false := by first | (simpa only [Bool.not_eq_true', Bool.not_eq_false'] using t49b) | simpa using t49b
          refine WC.cond_true rfl ?_
          refine WC.seq (fun K50 hK51 => ?_)
          refine WC.region ?_
          refine WL.runs 2 [(8, .slice none 0 0), (41, .agg #[.int .u32 0, .int .i64 0, .int .u32 0, .int .i64 0])] (fun _ => by kernel_rfl) ?_
          refine WL.storeM hC48 0 27 g3 0 (.agg #[.int .u32 0, .int .i64 0, .int .u32 0, .int .i64 0]) (by kernel_rfl) rfl rfl (fun w52 hF54 hC55 => ?_)
          refine WL.runs 1 [(10, .int .i64 9)] (fun _ => by kernel_rfl) ?_
          refine WL.done rfl ?_
          refine QX.then_normal (hK51 _ _ ?_)
          refine WC.ret ?_
          refine QX.then_ret ?_
          refine (hret' _ _ (.tuple #[.slice none 0 0, .agg #[.int .u32 0, .int .i64 0, .int .u32 0, .int .i64 0], .int .i64 9]) (fun a ha => ?_) ?_).1
          · exact res_run ha ((ResR.tmp rfl (ResR.cell rfl (run_ld (hC55.get 0 rfl) rfl) (ResR.tmp rfl ResR.nil)))) rfl
          clear hN hret hret' hK51 hK18 hK16 hK9 hK2
          have hE_ : grE xs vip dip now = 9 := by
            simp [grE, t22, t22b, t29, t29b, t39, t39b, t49, t49b, goodL_ask] <;> (try (intros; omega))
          have hL_ : grL xs vip dip now = ⟨0, 0, 0, 0⟩ := by simp [grL, hE_]
          have hX_ : grX xs vip dip now = [] := by simp [grX, hE_]
          rw [hE_, hL_, hX_]
          exact ⟨_, rfl, hC55.fr, own_nil _ _ _ _⟩
        · -- (!(goodTime now)) = true: false
          have t49 : (goodTime now) = true := by first | (simpa only [Bool.not_eq_true', Bool.not_eq_false'] using t49b) | simpa using t49b
          refine WC.cond_false rfl ?_
          refine WC.skip ?_
          refine QX.then_normal (hK16 _ _ ?_)
          refine WC.seq (fun K56 hK57 => ?_)
          refine WC.seq (fun K58 hK59 => ?_)
          refine WC.region ?_
          refine WL.runs 3 [(44, .int .i64 now), (43, .int .u32 dip), (42, .slice A xs.length c)] (fun _ => by kernel_rfl) ?_
          refine WL.call rfl rfl rfl rfl rfl (by kernel_rfl) (Of2_ct A c xs dip now w47 (Rd.fr hr hC48.fr) hwf (by first | omega | simp)) ?_
          rintro _ w62 ⟨v_, rfl, hF61, ho60⟩
          have hC63 := hC48.callN hF61 (own_ge ho60) (own_lt ho60)
          obtain ⟨A64, c65, rfl, hle66⟩ := own_form ho60
          have ho68 := own_base (b' := 0) ho60 (fun _ _ => Nat.zero_le _)
          refine ⟨_, rfl, ?_⟩
          refine WL.runs 2 [(47, .bool (decide (((xs.filter (ofP dip now)).length : Int) ≥ 4))), (46, .int .i64 ((xs.filter (ofP dip now)).length : Int))] (fun _ => by kernel_rfl) ?_
          refine WL.done rfl ?_
          refine QX.then_normal (hK59 _ _ ?_)
          refine WC.test_at 47 (decide (((xs.filter (ofP dip now)).length : Int) ≥ 4)) rfl (fun t70b => ?_) (fun t70b => ?_)
          · -- ((xs.filter (ofP dip now)).length : Int) ≥ 4: true
            have t70 : (4 : Int) ≤ ((xs.filter (ofP dip now)).length : Int) := by have q_ := of_decide_eq_true t70b; omega
            refine WC.cond_true rfl ?_
            refine WC.seq (fun K71 hK72 => ?_)
            refine WC.region ?_
            refine WL.runs 2 [(8, .slice none 0 0), (48, .agg #[.int .u32 0, .int .i64 0, .int .u32 0, .int .i64 0])] (fun _ => by kernel_rfl) ?_
            refine WL.storeM hC63 0 27 g3 0 (.agg #[.int .u32 0, .int .i64 0, .int .u32 0, .int .i64 0]) (by kernel_rfl) rfl rfl (fun w73 hF75 hC76 => ?_)
            have ho77 := own_fr ho68 hF75 (hC63.apartM 0 0 rfl rfl)
            refine WL.runs 1 [(10, .int .i64 7)] (fun _ => by kernel_rfl) ?_
            refine WL.done rfl ?_
            refine QX.then_normal (hK72 _ _ ?_)
            refine WC.ret ?_
            refine QX.then_ret ?_
            refine (hret' _ _ (.tuple #[.slice none 0 0, .agg #[.int .u32 0, .int .i64 0, .int .u32 0, .int .i64 0], .int .i64 7]) (fun a ha => ?_) ?_).1
            · exact res_run ha ((ResR.tmp rfl (ResR.cell rfl (run_ld (hC76.get 0 rfl) rfl) (ResR.tmp rfl ResR.nil)))) rfl
            clear hN hret hret' hK72 hK59 hK57 hK18 hK16 hK9 hK2
            have hE_ : grE xs vip dip now = 7 := by
              simp [grE, t22, t22b, t29, t29b, t39, t39b, t49, t49b, t70, t70b, goodL_ask] <;> (try (intros; omega))
            have hL_ : grL xs vip dip now = ⟨0, 0, 0, 0⟩ := by simp [grL, hE_]
            have hX_ : grX xs vip dip now = [] := by simp [grX, hE_]
            rw [hE_, hL_, hX_]
            exact ⟨_, rfl, hC76.fr, own_nil _ _ _ _⟩
          · -- ((xs.filter (ofP dip now)).length : Int) ≥ 4: false
            have t70 : ((xs.filter (ofP dip now)).length : Int) < 4 := by have q_ := of_decide_eq_false t70b; omega
            refine WC.cond_false rfl ?_
            refine WC.skip ?_
            refine QX.then_normal (hK57 _ _ ?_)
            refine WC.seq (fun K78 hK79 => ?_)
            refine WC.seq (fun K80 hK81 => ?_)
            refine WC.region ?_
            refine WL.runs 1 [(14, .int .i64 1024)] (fun _ => by kernel_rfl) ?_
            refine WL.done rfl ?_
            refine QX.then_normal (hK81 _ _ ?_)
            refine WC.block ?_
            refine WC.loop (fun m_ E_ w_ => ∃ (n : Nat), m_ = 8064 - n ∧ E_ = [(0, .slice A xs.length c), (1, .int .u32 vip), (2, .int .u32 dip), (3, .int .i64 now), (9, .pointer (some ⟨g3, 0, none⟩)), (11, .int .i64 h10), (12, .int .i64 v11), (13, .bool (isHome dip)), (14, .int .i64 (1024 + 8 * (n : Int))), (18, .tuple #[.int .i64 h10, .int .i64 v11, .bool (isHome dip)]), (19, .int .u32 dip), (20, .tuple #[.int .i64 h10, .int .i64 v11, .bool (isHome dip)]), (21, .int .i64 h10), (22, .int .i64 v11), (23, .bool (isHome dip)), (24, .slice A xs.length c), (25, .bool (checkL xs)), (26, .bool (!(checkL xs))), (27, .bool false), (28, .bool (isHome dip)), (29, .bool (!(isHome dip))), (30, .bool (!(isHome dip))), (31, .bool false), (32, .int .u32 vip), (33, .bool (isVip vip)), (34, .bool (!(isVip vip))), (35, .bool (!(isVip vip))), (36, .bool false), (37, .int .i64 now), (38, .bool (goodTime now)), (39, .bool (!(goodTime now))), (40, .bool false), (42, .slice A xs.length c), (43, .int .u32 dip), (44, .int .i64 now), (45, .slice A64 ((xs.filter (ofP dip now)).length) c65), (46, .int .i64 ((xs.filter (ofP dip now)).length : Int)), (47, .bool false)] ∧ Cx w [] w_ [(g3, .cells #[.int .u32 0, .int .i64 0, .int .u32 0, .int .i64 0] 27)] [blk (.slice A64 ((xs.filter (ofP dip now)).length) c65)] ∧ World.ownsRow w_ 0 27 4 (.slice A64 ((xs.filter (ofP dip now)).length) c65) ((xs.filter (ofP dip now)).length) ((xs.filter (ofP dip now)).flatMap encL) ∧ (n ≤ 8064 ∧ ∀ j, j < n → lentB xs vip now j = true)) ⟨_, _, ⟨0, rfl, rfl, hC63, ho68, Nat.zero_le _, fun j q => absurd q (Nat.not_lt_zero _)⟩, sub_of ⟨rfl, rfl, rfl, rfl, rfl, rfl, rfl, rfl, rfl, rfl, rfl, rfl, rfl, rfl, rfl, rfl, rfl, rfl, rfl, rfl, rfl, rfl, rfl, rfl, rfl, rfl, rfl, rfl, rfl, rfl, rfl, rfl, rfl, rfl, rfl, rfl, rfl, rfl, trivial⟩⟩ (fun m85 E_ w86 K82 hK83 hI84 => ?_)
            obtain ⟨n, rfl, rfl, hC87, row69_m85, hn, hno⟩ := hI84
            refine WC.seq (fun K88 hK89 => ?_)
            refine WC.seq (fun K90 hK91 => ?_)
            refine WC.region ?_
            refine WL.runs 2 [(50, .bool (decide ((1024 + 8 * (n : Int)) < 65536))), (49, .int .i64 (1024 + 8 * (n : Int)))] (fun _ => by kernel_rfl) ?_
            refine WL.done rfl ?_
            refine QX.then_normal (hK91 _ _ ?_)
            refine WC.test_at 50 (decide ((1024 + 8 * (n : Int)) < 65536)) rfl (fun t92b => ?_) (fun t92b => ?_)
            · -- (1024 + 8 * (n : Int)) < 65536: true
              have t92 : (1024 + 8 * (n : Int)) < 65536 := by have q_ := of_decide_eq_true t92b; omega
              refine WC.cond_true rfl ?_
              refine WC.skip ?_
              refine QX.then_normal (hK89 _ _ ?_)
              refine WC.seq (fun K93 hK94 => ?_)
              refine WC.block ?_
              refine WC.seq (fun K95 hK96 => ?_)
              refine WC.region ?_
              refine WL.runs 4 [(57, .int .i64 now), (56, .int .i64 (1024 + 8 * (n : Int))), (55, .int .u32 vip), (54, .slice A xs.length c)] (fun _ => by kernel_rfl) ?_
              refine WL.call rfl rfl rfl rfl rfl (by kernel_rfl) (Find2_ct A c xs vip (1024 + 8 * (n : Int)) now w86 (Rd.fr hr hC87.fr) hwf (by first | omega | simp) (by omega)) ?_
              rintro _ w98 ⟨rfl, hF97⟩
              refine ⟨_, rfl, ?_⟩
              have hC99 := hC87.call hF97
              have ho100 := own_fr row69_m85 hF97 (by simp)
              refine WL.runs 3 [(60, .bool (hasL (xs.filter (findP vip (1024 + 8 * (n : Int)) now)))), (59, .agg #[.int .u32 ((headL (xs.filter (findP vip (1024 + 8 * (n : Int)) now))).vip), .int .i64 ((headL (xs.filter (findP vip (1024 + 8 * (n : Int)) now))).first), .int .u32 ((headL (xs.filter (findP vip (1024 + 8 * (n : Int)) now))).dip), .int .i64 ((headL (xs.filter (findP vip (1024 + 8 * (n : Int)) now))).exp)]), (53, .tuple #[.agg #[.int .u32 ((headL (xs.filter (findP vip (1024 + 8 * (n : Int)) now))).vip), .int .i64 ((headL (xs.filter (findP vip (1024 + 8 * (n : Int)) now))).first), .int .u32 ((headL (xs.filter (findP vip (1024 + 8 * (n : Int)) now))).dip), .int .i64 ((headL (xs.filter (findP vip (1024 + 8 * (n : Int)) now))).exp)], .bool (hasL (xs.filter (findP vip (1024 + 8 * (n : Int)) now)))])] (fun _ => by kernel_rfl) ?_
              refine WL.newM hC99 (fun b => .pointer (some ⟨b, 0, none⟩)) (.cells #[.int .u32 0, .int .i64 0, .int .u32 0, .int .i64 0] 27) 15 (fun _ => by kernel_rfl) (fun g101 w102 hb105 hF103 hC104 => ?_)
              have ho106 := own_fr ho100 hF103 (by simp)
              refine WL.storeM hC104 1 27 g101 0 (.agg #[.int .u32 ((headL (xs.filter (findP vip (1024 + 8 * (n : Int)) now))).vip), .int .i64 ((headL (xs.filter (findP vip (1024 + 8 * (n : Int)) now))).first), .int .u32 ((headL (xs.filter (findP vip (1024 + 8 * (n : Int)) now))).dip), .int .i64 ((headL (xs.filter (findP vip (1024 + 8 * (n : Int)) now))).exp)]) (by kernel_rfl) rfl rfl (fun w107 hF109 hC110 => ?_)
              have ho111 := own_fr ho106 hF109 (hC104.apartM 0 1 rfl rfl)
              refine WL.runs 1 [(16, .bool (hasL (xs.filter (findP vip (1024 + 8 * (n : Int)) now))))] (fun _ => by kernel_rfl) ?_
              refine WL.done rfl ?_
              refine QX.then_normal (hK96 _ _ ?_)
              refine WC.seq (fun K112 hK113 => ?_)
              refine WC.region ?_
              refine WL.runs 2 [(62, .bool (!(hasL (xs.filter (findP vip (1024 + 8 * (n : Int)) now))))), (61, .bool (hasL (xs.filter (findP vip (1024 + 8 * (n : Int)) now))))] (fun _ => by kernel_rfl) ?_
              refine WL.done rfl ?_
              refine QX.then_normal (hK113 _ _ ?_)
              refine WC.test_at 62 (!(hasL (xs.filter (findP vip (1024 + 8 * (n : Int)) now)))) rfl (fun t114b => ?_) (fun t114b => ?_)
              · -- (!(hasL (xs.filter (findP vip (1024 + 8 * (n : Int)) now)))) = true: true
                have t114 : (hasL (xs.filter (findP vip (1024 + 8 * (n : Int)) now))) = false := by first | (simpa only [Bool.not_eq_true', Bool.not_eq_false'] using t114b) | simpa using t114b
                refine WC.cond_true rfl ?_
                refine WC.seq (fun K115 hK116 => ?_)
                refine WC.region ?_
                refine WL.runs 5 [(67, .int .i64 (IntKind.i64.wrap (now + 64))), (66, .int .i64 now), (65, .int .u32 dip), (64, .int .i64 (1024 + 8 * (n : Int))), (63, .int .u32 vip)] (fun _ => by kernel_rfl) ?_
                refine WL.recast (show (.int .i64 (IntKind.i64.wrap (now + 64)) : Value) = .int .i64 (now + 64) from by have q_ := goodTime_le t49; rw [wrap_in_i64 _ (by omega) (by omega)]) ?_
                refine WL.runs 1 [(68, .agg #[.int .u32 vip, .int .i64 (1024 + 8 * (n : Int)), .int .u32 dip, .int .i64 (now + 64)])] (fun _ => by kernel_rfl) ?_
                refine WL.newM hC110 (fun b => .pointer (some ⟨b, 0, none⟩)) (.cells #[.int .u32 0, .int .i64 0, .int .u32 0, .int .i64 0] 27) 17 (fun _ => by kernel_rfl) (fun g117 w118 hb121 hF119 hC120 => ?_)
                have ho122 := own_fr ho111 hF119 (by simp)
                refine WL.storeM hC120 2 27 g117 0 (.agg #[.int .u32 vip, .int .i64 (1024 + 8 * (n : Int)), .int .u32 dip, .int .i64 (now + 64)]) (by kernel_rfl) rfl rfl (fun w123 hF125 hC126 => ?_)
                have ho127 := own_fr ho122 hF125 (hC120.apartM 0 2 rfl rfl)
                refine WL.done rfl ?_
                refine QX.then_normal (hK116 _ _ ?_)
                refine WC.seq (fun K128 hK129 => ?_)
                refine WC.drawC hC126 [g3] (by kernel_rfl) (fun w130 hF131 hC132 hS133 => ?_)
                have ho134 := own_fr ho127 hF131 (by simp)
                refine WD.pure (NoPanic.then (NoPanic.block (NoPanic.then (NoPanic.then (NoPanic.block (NoPanic.then hN)))))) 0 69 (.slice A xs.length c) (by kernel_rfl) (fun _ => by kernel_rfl) hS133 ?_
                refine WD.load (NoPanic.then (NoPanic.block (NoPanic.then (NoPanic.then (NoPanic.block (NoPanic.then hN)))))) 1 27 (.pointer (some ⟨g117, 0, none⟩)) (.agg #[.int .u32 vip, .int .i64 (1024 + 8 * (n : Int)), .int .u32 dip, .int .i64 (now + 64)]) 70 (by kernel_rfl) (by kernel_rfl) (fun _ hS_ => run_ld (Fr.has hS_ (hC132.get 2 rfl) (by simpa using hC132.ne 2 0 rfl rfl (by decide))) rfl) hS133 ?_
                refine WD.load (NoPanic.then (NoPanic.block (NoPanic.then (NoPanic.then (NoPanic.block (NoPanic.then hN)))))) 3 27 (.pointer (some ⟨g117, 0, none⟩)) (.agg #[.int .u32 vip, .int .i64 (1024 + 8 * (n : Int)), .int .u32 dip, .int .i64 (now + 64)]) 72 (by kernel_rfl) (by kernel_rfl) (fun _ hS_ => run_ld (Fr.has hS_ (hC132.get 2 rfl) (by simpa using hC132.ne 2 0 rfl rfl (by decide))) rfl) hS133 ?_
                refine WD.call 2 (by kernel_rfl) rfl rfl rfl rfl rfl (by kernel_rfl) (with2_ct A c xs (⟨vip, (1024 + 8 * (n : Int)), dip, now + 64⟩ : Lease) w130 (Rd.fr hr hC132.fr) (checkL_sorted t22) (by omega)) ?_
                rintro _ w137 ⟨v_, rfl, hF136, ho135⟩
                have hC138 := hC132.callN hF136 (own_ge ho135) (own_lt ho135)
                obtain ⟨A139, c140, rfl, hle141⟩ := own_form ho135
                have ho143 := own_base (b' := 0) ho135 (fun _ _ => Nat.zero_le _)
                have hS144 := hS133.trans hF136 (by simp)
                refine ⟨_, rfl, hS144, ?_⟩
                have ho145 := own_fr ho134 hF136 (by simp)
                refine WD.pure (NoPanic.then (NoPanic.block (NoPanic.then (NoPanic.then (NoPanic.block (NoPanic.then hN)))))) 4 8 (.slice A139 ((insL xs (⟨vip, (1024 + 8 * (n : Int)), dip, now + 64⟩ : Lease)).length) c140) (by kernel_rfl) (fun _ => by kernel_rfl) hS144 ?_
                obtain ⟨w147, hr148, hF149, hC150⟩ := sto_run Tryd.prog hC138 0 27 g3 0 (.agg #[.int .u32 vip, .int .i64 (1024 + 8 * (n : Int)), .int .u32 dip, .int .i64 (now + 64)]) rfl rfl
                have hS151 := hS144.trans hF149 (by simp)
                refine WD.semU 5 (Instr.storeAt 27 (.pointer (some ⟨g3, 0, none⟩)) (.agg #[.int .u32 vip, .int .i64 (1024 + 8 * (n : Int)), .int .u32 dip, .int .i64 (now + 64)])) (by kernel_rfl) (by kernel_rfl) hr148 hS151 ?_
                have ho152 := own_fr ho145 hF149 (hC138.apartM 0 0 rfl rfl)
                have ho153 := own_fr ho143 hF149 (hC138.apartM 1 0 rfl rfl)
                refine WD.pure (NoPanic.then (NoPanic.block (NoPanic.then (NoPanic.then (NoPanic.block (NoPanic.then hN)))))) 6 10 (.int .i64 0) (by kernel_rfl) (fun _ => by kernel_rfl) hS151 ?_
                refine WD.done (by kernel_rfl) ?_
                refine QX.then_normal (hK129 _ _ ?_)
                refine WC.ret ?_
                refine QX.block_ret ?_
                refine QX.then_ret ?_
                refine QX.then_ret ?_
                refine QX.block_ret ?_
                refine QX.then_ret ?_
                refine (hret' _ _ (.tuple #[.slice A139 ((insL xs (⟨vip, (1024 + 8 * (n : Int)), dip, now + 64⟩ : Lease)).length) c140, .agg #[.int .u32 vip, .int .i64 (1024 + 8 * (n : Int)), .int .u32 dip, .int .i64 (now + 64)], .int .i64 0]) (fun a ha => ?_) ?_).1
                · exact res_run ha ((ResR.tmp rfl (ResR.cell rfl (run_ld (hC150.get 0 rfl) rfl) (ResR.tmp rfl ResR.nil)))) rfl
                clear hN hret hret' hK129 hK116 hK113 hK96 hK94 hK91 hK89 hK81 hK79 hK59 hK57 hK18 hK16 hK9 hK2
                have hlt_ : n < 8064 := by omega
                have hfn_ := free_first hno (by rw [← find_lent (checkL_good t22) vip now n]; assumption) hlt_
                have hff_ := free_firstF hfn_
                have hE_ : grE xs vip dip now = 0 := by
                  simp [grE, t114, t114b, t22, t22b, t29, t29b, t39, t39b, t49, t49b, t70, t70b, t92, t92b, goodL_ask, hfn_] <;> (try (intros; omega))
                have hL_ : grL xs vip dip now = (⟨vip, (1024 + 8 * (n : Int)), dip, now + 64⟩ : Lease) := by simp [grL, hE_, hff_]
                have hX_ : grX xs vip dip now = insL xs (⟨vip, (1024 + 8 * (n : Int)), dip, now + 64⟩ : Lease) := by rw [grX, if_pos hE_, hL_]
                rw [hE_, hL_, hX_]
                dsimp only
                exact ⟨_, rfl, hC150.fr, own_base ho153 (hC150.geF 1 rfl)⟩
              · -- (!(hasL (xs.filter (findP vip (1024 + 8 * (n : Int)) now)))) = true: false
                have t114 : (hasL (xs.filter (findP vip (1024 + 8 * (n : Int)) now))) = true := by first | (simpa only [Bool.not_eq_true', Bool.not_eq_false'] using t114b) | simpa using t114b
                refine WC.cond_false rfl ?_
                refine WC.skip ?_
                refine QX.block_normal ?_
                refine QX.then_normal (hK94 _ _ ?_)
                refine WC.region ?_
                refine WL.runs 2 [(52, .int .i64 (IntKind.i64.wrap ((1024 + 8 * (n : Int)) + 8))), (51, .int .i64 (1024 + 8 * (n : Int)))] (fun _ => by kernel_rfl) ?_
                refine WL.recast (show (.int .i64 (IntKind.i64.wrap ((1024 + 8 * (n : Int)) + 8)) : Value) = .int .i64 (1024 + 8 * ((n + 1 : Nat) : Int)) from by rw [wrap_in_i64 _ (by omega) (by omega)]; first | (congr 1; done) | (congr 1; omega)) ?_
                refine WL.runs 1 [(14, .int .i64 (1024 + 8 * ((n + 1 : Nat) : Int)))] (fun _ => by kernel_rfl) ?_
                refine WL.done rfl ?_
                refine QX.then_normal ?_
                have hC154 := hC110.pick [0] [0] rfl rfl
                refine fun a_ ha_ => hK83 _ _ _ ?_ ⟨n + 1, rfl, rfl, hC154, ho111, by omega, lent_next hno (by rw [← find_lent (checkL_good t22) vip now n]; assumption)⟩ a_ (ha_.weaken (sub_of ⟨rfl, rfl, rfl, rfl, rfl, rfl, rfl, rfl, rfl, rfl, rfl, rfl, rfl, rfl, rfl, rfl, rfl, rfl, rfl, rfl, rfl, rfl, rfl, rfl, rfl, rfl, rfl, rfl, rfl, rfl, rfl, rfl, rfl, rfl, rfl, rfl, rfl, rfl, trivial⟩))
                omega
            · -- (1024 + 8 * (n : Int)) < 65536: false
              have t92 : (65536 : Int) ≤ (1024 + 8 * (n : Int)) := by have q_ := of_decide_eq_false t92b; omega
              refine WC.cond_false rfl ?_
              refine WC.exit ?_
              refine QX.then_exit ?_
              refine QX.then_exit ?_
              refine QX.block_hit ?_
              refine QX.then_normal (hK79 _ _ ?_)
              refine WC.seq (fun K155 hK156 => ?_)
              refine WC.region ?_
              refine WL.runs 2 [(8, .slice none 0 0), (73, .agg #[.int .u32 0, .int .i64 0, .int .u32 0, .int .i64 0])] (fun _ => by kernel_rfl) ?_
              refine WL.storeM hC87 0 27 g3 0 (.agg #[.int .u32 0, .int .i64 0, .int .u32 0, .int .i64 0]) (by kernel_rfl) rfl rfl (fun w157 hF159 hC160 => ?_)
              have ho161 := own_fr row69_m85 hF159 (hC87.apartM 0 0 rfl rfl)
              refine WL.runs 1 [(10, .int .i64 5)] (fun _ => by kernel_rfl) ?_
              refine WL.done rfl ?_
              refine QX.then_normal (hK156 _ _ ?_)
              refine WC.ret ?_
              refine (hret' _ _ (.tuple #[.slice none 0 0, .agg #[.int .u32 0, .int .i64 0, .int .u32 0, .int .i64 0], .int .i64 5]) (fun a ha => ?_) ?_).1
              · exact res_run ha ((ResR.tmp rfl (ResR.cell rfl (run_ld (hC160.get 0 rfl) rfl) (ResR.tmp rfl ResR.nil)))) rfl
              clear hN hret hret' hK156 hK91 hK89 hK81 hK79 hK59 hK57 hK18 hK16 hK9 hK2
              have hfn_ : freeN xs vip now = none := free_none (fun n_ q_ => hno n_ (by omega))
              have hE_ : grE xs vip dip now = 5 := by
                simp [grE, t22, t22b, t29, t29b, t39, t39b, t49, t49b, t70, t70b, t92, t92b, goodL_ask, hfn_] <;> (try (intros; omega))
              have hL_ : grL xs vip dip now = ⟨0, 0, 0, 0⟩ := by simp [grL, hE_]
              have hX_ : grX xs vip dip now = [] := by simp [grX, hE_]
              rw [hE_, hL_, hX_]
              exact ⟨_, rfl, hC160.fr, own_nil _ _ _ _⟩

theorem Renew2_ct (A : Option Addr) (c : Nat) (xs : List Lease) (vip first dip now : Int) (w : World) (hr : Rd w 4 encL A xs) (hwf : ∀ l ∈ xs, okL l) (hm : xs.length < 2 ^ 39) : Calls Tryd.prog 24 #[.slice A xs.length c, .int .u32 vip, .int .i64 first, .int .u32 dip, .int .i64 now] w fun e w' => ∃ v, e = .returned (.tuple #[v, .agg #[.int .u32 ((rnL xs vip first dip now).vip), .int .i64 ((rnL xs vip first dip now).first), .int .u32 ((rnL xs vip first dip now).dip), .int .i64 ((rnL xs vip first dip now).exp)], .int .i64 (rnE xs vip first dip now)]) ∧ Fr w w' [] ∧ w'.ownsRow w.heap.size 27 4 v (rnX xs vip first dip now).length ((rnX xs vip first dip now).flatMap encL) := by
  refine enterD (n := 64) Tryd.func24 rfl rfl (Nat.le_of_ble_eq_true rfl) ?_
  intro Q0 hN hret hret'
  have hC := Cx.start w
  refine WC.seq (fun K1 hK2 => ?_)
  refine WC.region ?_
  refine WL.runs 1 [(10, .slice none 0 0)] (fun _ => by kernel_rfl) ?_
  refine WL.newM hC (fun b => .pointer (some ⟨b, 0, none⟩)) (.cells #[.int .u32 0, .int .i64 0, .int .u32 0, .int .i64 0] 27) 11 (fun _ => by kernel_rfl) (fun g3 w4 hb7 hF5 hC6 => ?_)
  refine WL.runs 1 [(12, .int .i64 0)] (fun _ => by kernel_rfl) ?_
  refine WL.done rfl ?_
  refine QX.then_normal (hK2 _ _ ?_)
  refine WC.seq (fun K8 hK9 => ?_)
  refine WC.seq (fun K10 hK11 => ?_)
  refine WC.region ?_
  refine WL.runs 1 [(15, .slice A xs.length c)] (fun _ => by kernel_rfl) ?_
  refine WL.call rfl rfl rfl rfl rfl (by kernel_rfl) (Good2_ct A c xs w4 (Rd.fr hr hC6.fr) hwf (by omega)) ?_
  rintro _ w13 ⟨rfl, hF12⟩
  refine ⟨_, rfl, ?_⟩
  have hC14 := hC6.call hF12
  refine WL.runs 2 [(18, .bool (!(checkL xs))), (17, .bool (!(checkL xs)))] (fun _ => by kernel_rfl) ?_
  refine WL.test_at 18 (!(checkL xs)) rfl (fun t15b => ?_) (fun t15b => ?_)
  · -- (!(checkL xs)) = true: true
    have t15 : (checkL xs) = false := by first | (simpa only [Bool.not_eq_true', Bool.not_eq_false'] using t15b) | simpa using t15b
    refine WL.runs 4 [(22, .bool true), (21, undef), (20, undef), (19, undef)] (fun _ => by kernel_rfl) ?_
    refine WL.done rfl ?_
    refine QX.then_normal (hK11 _ _ ?_)
    refine WC.cond_true rfl ?_
    refine WC.seq (fun K16 hK17 => ?_)
    refine WC.region ?_
    refine WL.runs 2 [(10, .slice none 0 0), (23, .agg #[.int .u32 0, .int .i64 0, .int .u32 0, .int .i64 0])] (fun _ => by kernel_rfl) ?_
    refine WL.storeM hC14 0 27 g3 0 (.agg #[.int .u32 0, .int .i64 0, .int .u32 0, .int .i64 0]) (by kernel_rfl) rfl rfl (fun w18 hF20 hC21 => ?_)
    refine WL.runs 1 [(12, .int .i64 9)] (fun _ => by kernel_rfl) ?_
    refine WL.done rfl ?_
    refine QX.then_normal (hK17 _ _ ?_)
    refine WC.ret ?_
    refine QX.then_ret ?_
    refine (hret' _ _ (.tuple #[.slice none 0 0, .agg #[.int .u32 0, .int .i64 0, .int .u32 0, .int .i64 0], .int .i64 9]) (fun a ha => ?_) ?_).1
    · exact res_run ha ((ResR.tmp rfl (ResR.cell rfl (run_ld (hC21.get 0 rfl) rfl) (ResR.tmp rfl ResR.nil)))) rfl
    clear hN hret hret' hK17 hK11 hK9 hK2
    have hE_ : rnE xs vip first dip now = 9 := by
      simp [rnE, t15, t15b] <;> (try (intros; omega))
    have hL_ : rnL xs vip first dip now = ⟨0, 0, 0, 0⟩ := by simp [rnL, hE_]
    have hX_ : rnX xs vip first dip now = [] := by simp [rnX, hE_]
    rw [hE_, hL_, hX_]
    exact ⟨_, rfl, hC21.fr, own_nil _ _ _ _⟩
  · -- (!(checkL xs)) = true: false
    have t15 : (checkL xs) = true := by first | (simpa only [Bool.not_eq_true', Bool.not_eq_false'] using t15b) | simpa using t15b
    refine WL.runs 1 [(19, .int .i64 now)] (fun _ => by kernel_rfl) ?_
    refine WL.call rfl rfl rfl rfl rfl (by kernel_rfl) (time2_ct now w13) ?_
    rintro _ w23 ⟨rfl, hF22⟩
    refine ⟨_, rfl, ?_⟩
    have hC24 := hC14.call hF22
    refine WL.runs 2 [(22, .bool (!(goodTime now))), (21, .bool (!(goodTime now)))] (fun _ => by kernel_rfl) ?_
    refine WL.done rfl ?_
    refine QX.then_normal (hK11 _ _ ?_)
    refine WC.test_at 22 (!(goodTime now)) rfl (fun t25b => ?_) (fun t25b => ?_)
    · -- (!(goodTime now)) = true: true
      have t25 : (goodTime now) = false := by first | (simpa only [Bool.not_eq_true', Bool.not_eq_false'] using t25b) | simpa using t25b
      refine WC.cond_true rfl ?_
      refine WC.seq (fun K26 hK27 => ?_)
      refine WC.region ?_
      refine WL.runs 2 [(10, .slice none 0 0), (23, .agg #[.int .u32 0, .int .i64 0, .int .u32 0, .int .i64 0])] (fun _ => by kernel_rfl) ?_
      refine WL.storeM hC24 0 27 g3 0 (.agg #[.int .u32 0, .int .i64 0, .int .u32 0, .int .i64 0]) (by kernel_rfl) rfl rfl (fun w28 hF30 hC31 => ?_)
      refine WL.runs 1 [(12, .int .i64 9)] (fun _ => by kernel_rfl) ?_
      refine WL.done rfl ?_
      refine QX.then_normal (hK27 _ _ ?_)
      refine WC.ret ?_
      refine QX.then_ret ?_
      refine (hret' _ _ (.tuple #[.slice none 0 0, .agg #[.int .u32 0, .int .i64 0, .int .u32 0, .int .i64 0], .int .i64 9]) (fun a ha => ?_) ?_).1
      · exact res_run ha ((ResR.tmp rfl (ResR.cell rfl (run_ld (hC31.get 0 rfl) rfl) (ResR.tmp rfl ResR.nil)))) rfl
      clear hN hret hret' hK27 hK11 hK9 hK2
      have hE_ : rnE xs vip first dip now = 9 := by
        simp [rnE, t15, t15b, t25, t25b] <;> (try (intros; omega))
      have hL_ : rnL xs vip first dip now = ⟨0, 0, 0, 0⟩ := by simp [rnL, hE_]
      have hX_ : rnX xs vip first dip now = [] := by simp [rnX, hE_]
      rw [hE_, hL_, hX_]
      exact ⟨_, rfl, hC31.fr, own_nil _ _ _ _⟩
    · -- (!(goodTime now)) = true: false
      have t25 : (goodTime now) = true := by first | (simpa only [Bool.not_eq_true', Bool.not_eq_false'] using t25b) | simpa using t25b
      refine WC.cond_false rfl ?_
      refine WC.skip ?_
      refine QX.then_normal (hK9 _ _ ?_)
      refine WC.seq (fun K32 hK33 => ?_)
      refine WC.seq (fun K34 hK35 => ?_)
      refine WC.region ?_
      refine WL.runs 1 [(13, .int .i64 0)] (fun _ => by kernel_rfl) ?_
      refine WL.done rfl ?_
      refine QX.then_normal (hK35 _ _ ?_)
      refine WC.block ?_
      refine WC.loop (fun m_ E_ w_ => ∃ (k : Nat), m_ = xs.length - k ∧ E_ = [(0, .slice A xs.length c), (1, .int .u32 vip), (2, .int .i64 first), (3, .int .u32 dip), (4, .int .i64 now), (11, .pointer (some ⟨g3, 0, none⟩)), (13, .int .i64 (k : Int)), (15, .slice A xs.length c), (16, .bool (checkL xs)), (17, .bool (!(checkL xs))), (18, .bool false), (19, .int .i64 now), (20, .bool (goodTime now)), (21, .bool (!(goodTime now))), (22, .bool false)] ∧ Cx w [] w_ [(g3, .cells #[.int .u32 0, .int .i64 0, .int .u32 0, .int .i64 0] 27)] [] ∧ (k ≤ xs.length ∧ (xs.take k).any (rnP vip first dip now) = false)) ⟨_, _, ⟨0, rfl, rfl, hC24, Nat.zero_le _, rfl⟩, sub_of ⟨rfl, rfl, rfl, rfl, rfl, rfl, rfl, rfl, rfl, rfl, rfl, rfl, rfl, rfl, rfl, trivial⟩⟩ (fun m39 E_ w40 K36 hK37 hI38 => ?_)
      obtain ⟨k, rfl, rfl, hC41, hk, hany⟩ := hI38
      refine WC.seq (fun K42 hK43 => ?_)
      refine WC.seq (fun K44 hK45 => ?_)
      refine WC.region ?_
      refine WL.runs 4 [(27, .bool (decide ((k : Int) < (xs.length : Int)))), (26, .int .i64 (xs.length : Int)), (25, .slice A xs.length c), (24, .int .i64 (k : Int))] (fun _ => by kernel_rfl) ?_
      refine WL.done rfl ?_
      refine QX.then_normal (hK45 _ _ ?_)
      refine WC.test_at 27 (decide ((k : Int) < (xs.length : Int))) rfl (fun t46b => ?_) (fun t46b => ?_)
      · -- (k : Int) < (xs.length : Int): true
        have t46 : (k : Int) < (xs.length : Int) := by have q_ := of_decide_eq_true t46b; omega
        refine WC.cond_true rfl ?_
        refine WC.skip ?_
        refine QX.then_normal (hK43 _ _ ?_)
        refine WC.seq (fun K47 hK48 => ?_)
        refine WC.block ?_
        refine WC.seq (fun K49 hK50 => ?_)
        refine WC.region ?_
        refine WL.runs 2 [(31, .int .i64 (k : Int)), (30, .slice A xs.length c)] (fun _ => by kernel_rfl) ?_
        obtain ⟨e51, he52⟩ := get_some (xs := xs) (i := k) (by omega)
        obtain ⟨b53, o55, hA54, hc56⟩ := hr.at_ _ _ he52
        have hok_e51 := hwf _ (List.mem_of_getElem? he52)
        have hokk_ := hok_e51
        obtain ⟨_, _, _, _, hfl_e51, hfh_e51, _⟩ := hokk_
        refine WL.index A xs.length c 32 .i64 (k : Int) b53 o55 k 4 (by kernel_rfl) hA54 (by omega) (by omega) (o55 + k * 4) (by first | (simp; done) | omega) ?_
        refine WL.load 27 (.pointer (some ⟨b53, o55 + k * 4, none⟩)) (.agg #[.int .u32 e51.vip, .int .i64 e51.first, .int .u32 e51.dip, .int .i64 e51.exp]) 33 (by kernel_rfl) (run_rdN (l := [.int .u32 e51.vip, .int .i64 e51.first, .int .u32 e51.dip, .int .i64 e51.exp]) rfl rfl (fun j u hu => by have hq_ := hC41.fr.cell (hc56 j u hu) (by simp); simpa [Nat.add_assoc] using hq_)) ?_
        refine WL.newM hC41 (fun b => .pointer (some ⟨b, 0, none⟩)) (.cells #[.int .u32 0, .int .i64 0, .int .u32 0, .int .i64 0] 27) 14 (fun _ => by kernel_rfl) (fun g57 w58 hb61 hF59 hC60 => ?_)
        refine WL.storeM hC60 1 27 g57 0 (.agg #[.int .u32 e51.vip, .int .i64 e51.first, .int .u32 e51.dip, .int .i64 e51.exp]) (by kernel_rfl) rfl rfl (fun w62 hF64 hC65 => ?_)
        refine WL.done rfl ?_
        refine QX.then_normal (hK50 _ _ ?_)
        refine WC.seq (fun K66 hK67 => ?_)
        refine WC.region ?_
        refine WL.runs 1 [(34, .pointer (some ⟨g57, 0, none⟩))] (fun _ => by kernel_rfl) ?_
        refine WL.load 23 (.pointer (some ⟨g57, 0, none⟩)) (.int .u32 e51.vip) 35 (by kernel_rfl) (run_ld (hC65.get 1 rfl) rfl) ?_
        refine WL.runs 3 [(38, .bool (e51.vip == vip)), (37, .bool (e51.vip == vip)), (36, .int .u32 vip)] (fun _ => by kernel_rfl) ?_
        refine WL.test_at 38 (e51.vip == vip) rfl (fun t68b => ?_) (fun t68b => ?_)
        · -- e51.vip = vip: true
          have t68 : e51.vip = vip := by simpa using t68b
          refine WL.runs 1 [(39, .pointer (some ⟨g57, 1, none⟩))] (fun _ => by kernel_rfl) ?_
          refine WL.load 3 (.pointer (some ⟨g57, 1, none⟩)) (.int .i64 e51.first) 40 (by kernel_rfl) (run_ld (hC65.get 1 rfl) rfl) ?_
          refine WL.runs 4 [(44, .bool (e51.first == first)), (43, .bool (e51.first == first)), (42, .bool (e51.first == first)), (41, .int .i64 first)] (fun _ => by kernel_rfl) ?_
          refine WL.test_at 44 (e51.first == first) rfl (fun t69b => ?_) (fun t69b => ?_)
          · -- e51.first = first: true
            have t69 : e51.first = first := by simpa using t69b
            refine WL.runs 1 [(45, .pointer (some ⟨g57, 2, none⟩))] (fun _ => by kernel_rfl) ?_
            refine WL.load 23 (.pointer (some ⟨g57, 2, none⟩)) (.int .u32 e51.dip) 46 (by kernel_rfl) (run_ld (hC65.get 1 rfl) rfl) ?_
            refine WL.runs 4 [(50, .bool (e51.dip == dip)), (49, .bool (e51.dip == dip)), (48, .bool (e51.dip == dip)), (47, .int .u32 dip)] (fun _ => by kernel_rfl) ?_
            refine WL.test_at 50 (e51.dip == dip) rfl (fun t70b => ?_) (fun t70b => ?_)
            · -- e51.dip = dip: true
              have t70 : e51.dip = dip := by simpa using t70b
              refine WL.runs 1 [(51, .pointer (some ⟨g57, 3, none⟩))] (fun _ => by kernel_rfl) ?_
              refine WL.load 3 (.pointer (some ⟨g57, 3, none⟩)) (.int .i64 e51.exp) 52 (by kernel_rfl) (run_ld (hC65.get 1 rfl) rfl) ?_
              refine WL.runs 3 [(55, .bool (decide (e51.exp ≥ now))), (54, .bool (decide (e51.exp ≥ now))), (53, .int .i64 now)] (fun _ => by kernel_rfl) ?_
              refine WL.done rfl ?_
              refine QX.then_normal (hK67 _ _ ?_)
              refine WC.test_at 55 (decide (e51.exp ≥ now)) rfl (fun t71b => ?_) (fun t71b => ?_)
              · -- e51.exp ≥ now: true
                have t71 : now ≤ e51.exp := by have q_ := of_decide_eq_true t71b; omega
                refine WC.cond_true rfl ?_
                refine WC.seq (fun K72 hK73 => ?_)
                refine WC.region ?_
                refine WL.runs 2 [(57, .int .i64 (IntKind.i64.wrap (now + 64))), (56, .int .i64 now)] (fun _ => by kernel_rfl) ?_
                refine WL.recast (show (.int .i64 (IntKind.i64.wrap (now + 64)) : Value) = .int .i64 (now + 64) from by have q_ := goodTime_le t25; rw [wrap_in_i64 _ (by omega) (by omega)]) ?_
                refine WL.runs 1 [(58, .pointer (some ⟨g57, 3, none⟩))] (fun _ => by kernel_rfl) ?_
                refine WL.storeM hC65 1 3 g57 3 (.int .i64 (now + 64)) (by kernel_rfl) rfl rfl (fun w74 hF76 hC77 => ?_)
                refine WL.done rfl ?_
                refine QX.then_normal (hK73 _ _ ?_)
                refine WC.seq (fun K78 hK79 => ?_)
                refine WC.drawC hC77 [g3] (by kernel_rfl) (fun w80 hF81 hC82 hS83 => ?_)
                refine WD.pure (NoPanic.then (NoPanic.block (NoPanic.then (NoPanic.then (NoPanic.block (NoPanic.then hN)))))) 0 59 (.slice A xs.length c) (by kernel_rfl) (fun _ => by kernel_rfl) hS83 ?_
                refine WD.load (NoPanic.then (NoPanic.block (NoPanic.then (NoPanic.then (NoPanic.block (NoPanic.then hN)))))) 1 27 (.pointer (some ⟨g57, 0, none⟩)) (.agg #[.int .u32 e51.vip, .int .i64 e51.first, .int .u32 e51.dip, .int .i64 (now + 64)]) 60 (by kernel_rfl) (by kernel_rfl) (fun _ hS_ => run_ld (Fr.has hS_ (hC82.get 1 rfl) (by simpa using hC82.ne 1 0 rfl rfl (by decide))) rfl) hS83 ?_
                refine WD.load (NoPanic.then (NoPanic.block (NoPanic.then (NoPanic.then (NoPanic.block (NoPanic.then hN)))))) 3 27 (.pointer (some ⟨g57, 0, none⟩)) (.agg #[.int .u32 e51.vip, .int .i64 e51.first, .int .u32 e51.dip, .int .i64 (now + 64)]) 62 (by kernel_rfl) (by kernel_rfl) (fun _ hS_ => run_ld (Fr.has hS_ (hC82.get 1 rfl) (by simpa using hC82.ne 1 0 rfl rfl (by decide))) rfl) hS83 ?_
                refine WD.call 2 (by kernel_rfl) rfl rfl rfl rfl rfl (by kernel_rfl) (with2_ct A c xs (⟨e51.vip, e51.first, e51.dip, now + 64⟩ : Lease) w80 (Rd.fr hr hC82.fr) (checkL_sorted t15) (by omega)) ?_
                rintro _ w86 ⟨v_, rfl, hF85, ho84⟩
                have hC87 := hC82.callN hF85 (own_ge ho84) (own_lt ho84)
                obtain ⟨A88, c89, rfl, hle90⟩ := own_form ho84
                have ho92 := own_base (b' := 0) ho84 (fun _ _ => Nat.zero_le _)
                have hS93 := hS83.trans hF85 (by simp)
                refine ⟨_, rfl, hS93, ?_⟩
                refine WD.pure (NoPanic.then (NoPanic.block (NoPanic.then (NoPanic.then (NoPanic.block (NoPanic.then hN)))))) 4 10 (.slice A88 ((insL xs (⟨e51.vip, e51.first, e51.dip, now + 64⟩ : Lease)).length) c89) (by kernel_rfl) (fun _ => by kernel_rfl) hS93 ?_
                obtain ⟨w95, hr96, hF97, hC98⟩ := sto_run Tryd.prog hC87 0 27 g3 0 (.agg #[.int .u32 e51.vip, .int .i64 e51.first, .int .u32 e51.dip, .int .i64 (now + 64)]) rfl rfl
                have hS99 := hS93.trans hF97 (by simp)
                refine WD.semU 5 (Instr.storeAt 27 (.pointer (some ⟨g3, 0, none⟩)) (.agg #[.int .u32 e51.vip, .int .i64 e51.first, .int .u32 e51.dip, .int .i64 (now + 64)])) (by kernel_rfl) (by kernel_rfl) hr96 hS99 ?_
                have ho100 := own_fr ho92 hF97 (hC87.apartM 0 0 rfl rfl)
                refine WD.pure (NoPanic.then (NoPanic.block (NoPanic.then (NoPanic.then (NoPanic.block (NoPanic.then hN)))))) 6 12 (.int .i64 0) (by kernel_rfl) (fun _ => by kernel_rfl) hS99 ?_
                refine WD.done (by kernel_rfl) ?_
                refine QX.then_normal (hK79 _ _ ?_)
                refine WC.ret ?_
                refine QX.block_ret ?_
                refine QX.then_ret ?_
                refine QX.then_ret ?_
                refine QX.block_ret ?_
                refine QX.then_ret ?_
                refine (hret' _ _ (.tuple #[.slice A88 ((insL xs (⟨e51.vip, e51.first, e51.dip, now + 64⟩ : Lease)).length) c89, .agg #[.int .u32 e51.vip, .int .i64 e51.first, .int .u32 e51.dip, .int .i64 (now + 64)], .int .i64 0]) (fun a ha => ?_) ?_).1
                · exact res_run ha ((ResR.tmp rfl (ResR.cell rfl (run_ld (hC98.get 0 rfl) rfl) (ResR.tmp rfl ResR.nil)))) rfl
                clear hN hret hret' hK79 hK73 hK67 hK50 hK48 hK45 hK43 hK35 hK33 hK11 hK9 hK2
                have hrp_ : rnP vip first dip now e51 = true := by simp [rnP, livesB, t15, t15b, t25, t25b, t46, t46b, t68, t68b, t69, t69b, t70, t70b, t71, t71b]
                have hany_ := rn_hit he52 hrp_
                obtain ⟨⟨⟨hrv_, hrf_⟩, hrd_⟩, hrl_⟩ : ((e51.vip = vip ∧ e51.first = first) ∧ e51.dip = dip) ∧ livesB e51 now = true := by simpa [rnP] using hrp_
                have hE_ : rnE xs vip first dip now = 0 := by
                  simp [rnE, t15, t15b, t25, t25b, t46, t46b, t68, t68b, t69, t69b, t70, t70b, t71, t71b, hany_] <;> (try (intros; omega))
                have hL_ : rnL xs vip first dip now = (⟨e51.vip, e51.first, e51.dip, now + 64⟩ : Lease) := by simp [rnL, hE_, hrv_, hrf_, hrd_]
                have hX_ : rnX xs vip first dip now = insL xs (⟨e51.vip, e51.first, e51.dip, now + 64⟩ : Lease) := by rw [rnX, if_pos hE_, hL_]
                rw [hE_, hL_, hX_]
                dsimp only
                exact ⟨_, rfl, hC98.fr, own_base ho100 (hC98.geF 0 rfl)⟩
              · -- e51.exp ≥ now: false
                have t71 : e51.exp < now := by have q_ := of_decide_eq_false t71b; omega
                refine WC.cond_false rfl ?_
                refine WC.skip ?_
                refine QX.block_normal ?_
                refine QX.then_normal (hK48 _ _ ?_)
                refine WC.region ?_
                refine WL.runs 2 [(29, .int .i64 (IntKind.i64.wrap ((k : Int) + 1))), (28, .int .i64 (k : Int))] (fun _ => by kernel_rfl) ?_
                refine WL.recast (show (.int .i64 (IntKind.i64.wrap ((k : Int) + 1)) : Value) = .int .i64 ((k : Int) + 1) from by rw [wrap_in_i64 ((k : Int) + 1) (by omega) (by omega)]) ?_
                refine WL.runs 1 [(13, .int .i64 ((k : Int) + 1))] (fun _ => by kernel_rfl) ?_
                refine WL.done rfl ?_
                refine QX.then_normal ?_
                have hC101 := hC65.pick [0] [] rfl rfl
                refine fun a_ ha_ => hK37 _ _ _ ?_ ⟨k + 1, rfl, rfl, hC101, by omega, rn_step he52 hany (by simp [rnP, livesB, t15, t15b, t25, t25b, t46, t46b, t68, t68b, t69, t69b, t70, t70b, t71, t71b])⟩ a_ (ha_.weaken (sub_of ⟨rfl, rfl, rfl, rfl, rfl, rfl, rfl, rfl, rfl, rfl, rfl, rfl, rfl, rfl, rfl, trivial⟩))
                omega
            · -- e51.dip = dip: false
              have t70 : ¬ (e51.dip = dip) := by simpa using t70b
              refine WL.runs 5 [(55, .bool false), (54, undef), (53, undef), (52, undef), (51, undef)] (fun _ => by kernel_rfl) ?_
              refine WL.done rfl ?_
              refine QX.then_normal (hK67 _ _ ?_)
              refine WC.cond_false rfl ?_
              refine WC.skip ?_
              refine QX.block_normal ?_
              refine QX.then_normal (hK48 _ _ ?_)
              refine WC.region ?_
              refine WL.runs 2 [(29, .int .i64 (IntKind.i64.wrap ((k : Int) + 1))), (28, .int .i64 (k : Int))] (fun _ => by kernel_rfl) ?_
              refine WL.recast (show (.int .i64 (IntKind.i64.wrap ((k : Int) + 1)) : Value) = .int .i64 ((k : Int) + 1) from by rw [wrap_in_i64 ((k : Int) + 1) (by omega) (by omega)]) ?_
              refine WL.runs 1 [(13, .int .i64 ((k : Int) + 1))] (fun _ => by kernel_rfl) ?_
              refine WL.done rfl ?_
              refine QX.then_normal ?_
              have hC102 := hC65.pick [0] [] rfl rfl
              refine fun a_ ha_ => hK37 _ _ _ ?_ ⟨k + 1, rfl, rfl, hC102, by omega, rn_step he52 hany (by simp [rnP, livesB, t15, t15b, t25, t25b, t46, t46b, t68, t68b, t69, t69b, t70, t70b])⟩ a_ (ha_.weaken (sub_of ⟨rfl, rfl, rfl, rfl, rfl, rfl, rfl, rfl, rfl, rfl, rfl, rfl, rfl, rfl, rfl, trivial⟩))
              omega
          · -- e51.first = first: false
            have t69 : ¬ (e51.first = first) := by simpa using t69b
            refine WL.runs 11 [(55, .bool false), (54, undef), (53, undef), (52, undef), (51, undef), (50, .bool false), (49, .bool false), (48, undef), (47, undef), (46, undef), (45, undef)] (fun _ => by kernel_rfl) ?_
            refine WL.done rfl ?_
            refine QX.then_normal (hK67 _ _ ?_)
            refine WC.cond_false rfl ?_
            refine WC.skip ?_
            refine QX.block_normal ?_
            refine QX.then_normal (hK48 _ _ ?_)
            refine WC.region ?_
            refine WL.runs 2 [(29, .int .i64 (IntKind.i64.wrap ((k : Int) + 1))), (28, .int .i64 (k : Int))] (fun _ => by kernel_rfl) ?_
            refine WL.recast (show (.int .i64 (IntKind.i64.wrap ((k : Int) + 1)) : Value) = .int .i64 ((k : Int) + 1) from by rw [wrap_in_i64 ((k : Int) + 1) (by omega) (by omega)]) ?_
            refine WL.runs 1 [(13, .int .i64 ((k : Int) + 1))] (fun _ => by kernel_rfl) ?_
            refine WL.done rfl ?_
            refine QX.then_normal ?_
            have hC103 := hC65.pick [0] [] rfl rfl
            refine fun a_ ha_ => hK37 _ _ _ ?_ ⟨k + 1, rfl, rfl, hC103, by omega, rn_step he52 hany (by simp [rnP, livesB, t15, t15b, t25, t25b, t46, t46b, t68, t68b, t69, t69b])⟩ a_ (ha_.weaken (sub_of ⟨rfl, rfl, rfl, rfl, rfl, rfl, rfl, rfl, rfl, rfl, rfl, rfl, rfl, rfl, rfl, trivial⟩))
            omega
        · -- e51.vip = vip: false
          have t68 : ¬ (e51.vip = vip) := by simpa using t68b
          refine WL.runs 17 [(55, .bool false), (54, undef), (53, undef), (52, undef), (51, undef), (50, .bool false), (49, .bool false), (48, undef), (47, undef), (46, undef), (45, undef), (44, .bool false), (43, .bool false), (42, undef), (41, undef), (40, undef), (39, undef)] (fun _ => by kernel_rfl) ?_
          refine WL.done rfl ?_
          refine QX.then_normal (hK67 _ _ ?_)
          refine WC.cond_false rfl ?_
          refine WC.skip ?_
          refine QX.block_normal ?_
          refine QX.then_normal (hK48 _ _ ?_)
          refine WC.region ?_
          refine WL.runs 2 [(29, .int .i64 (IntKind.i64.wrap ((k : Int) + 1))), (28, .int .i64 (k : Int))] (fun _ => by kernel_rfl) ?_
          refine WL.recast (show (.int .i64 (IntKind.i64.wrap ((k : Int) + 1)) : Value) = .int .i64 ((k : Int) + 1) from by rw [wrap_in_i64 ((k : Int) + 1) (by omega) (by omega)]) ?_
          refine WL.runs 1 [(13, .int .i64 ((k : Int) + 1))] (fun _ => by kernel_rfl) ?_
          refine WL.done rfl ?_
          refine QX.then_normal ?_
          have hC104 := hC65.pick [0] [] rfl rfl
          refine fun a_ ha_ => hK37 _ _ _ ?_ ⟨k + 1, rfl, rfl, hC104, by omega, rn_step he52 hany (by simp [rnP, livesB, t15, t15b, t25, t25b, t46, t46b, t68, t68b])⟩ a_ (ha_.weaken (sub_of ⟨rfl, rfl, rfl, rfl, rfl, rfl, rfl, rfl, rfl, rfl, rfl, rfl, rfl, rfl, rfl, trivial⟩))
          omega
      · -- (k : Int) < (xs.length : Int): false
        have t46 : (xs.length : Int) ≤ (k : Int) := by have q_ := of_decide_eq_false t46b; omega
        refine WC.cond_false rfl ?_
        refine WC.exit ?_
        refine QX.then_exit ?_
        refine QX.then_exit ?_
        refine QX.block_hit ?_
        refine QX.then_normal (hK33 _ _ ?_)
        refine WC.seq (fun K105 hK106 => ?_)
        refine WC.region ?_
        refine WL.runs 2 [(10, .slice none 0 0), (63, .agg #[.int .u32 0, .int .i64 0, .int .u32 0, .int .i64 0])] (fun _ => by kernel_rfl) ?_
        refine WL.storeM hC41 0 27 g3 0 (.agg #[.int .u32 0, .int .i64 0, .int .u32 0, .int .i64 0]) (by kernel_rfl) rfl rfl (fun w107 hF109 hC110 => ?_)
        refine WL.runs 1 [(12, .int .i64 6)] (fun _ => by kernel_rfl) ?_
        refine WL.done rfl ?_
        refine QX.then_normal (hK106 _ _ ?_)
        refine WC.ret ?_
        refine (hret' _ _ (.tuple #[.slice none 0 0, .agg #[.int .u32 0, .int .i64 0, .int .u32 0, .int .i64 0], .int .i64 6]) (fun a ha => ?_) ?_).1
        · exact res_run ha ((ResR.tmp rfl (ResR.cell rfl (run_ld (hC110.get 0 rfl) rfl) (ResR.tmp rfl ResR.nil)))) rfl
        clear hN hret hret' hK106 hK45 hK43 hK35 hK33 hK11 hK9 hK2
        have hany_ := rn_none (by omega) hany
        have hE_ : rnE xs vip first dip now = 6 := by
          simp [rnE, t15, t15b, t25, t25b, t46, t46b, hany_] <;> (try (intros; omega))
        have hL_ : rnL xs vip first dip now = ⟨0, 0, 0, 0⟩ := by simp [rnL, hE_]
        have hX_ : rnX xs vip first dip now = [] := by simp [rnX, hE_]
        rw [hE_, hL_, hX_]
        exact ⟨_, rfl, hC110.fr, own_nil _ _ _ _⟩

end Go.Proofs.YtoambminolcgfaaDoor
