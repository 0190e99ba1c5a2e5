/- Contracts of functions of the program, each proved by a walk through its code; conditions stand in the statements. -/
import Derived.Test.YtfligklljkcbfaaDoorStB16
namespace Go.Proofs.YtfligklljkcbfaaDoor
set_option linter.unusedSimpArgs false
set_option linter.unusedVariables false
set_option linter.unusedSectionVars false
open Go Go.RowKit Go.Tw
set_option linter.unusedVariables false
set_option maxRecDepth 20000
structure Lease where
  vip : Int
  first : Int
  dip : Int
  exp : Int
deriving DecidableEq
def encL (l : Lease) : List Value := [.int .u32 l.vip, .int .i64 l.first, .int .u32 l.dip, .int .i64 l.exp]
theorem encL_len (l : Lease) : (encL l).length = 4 := rfl
theorem encL_one (l : Lease) : (encL l).all Value.oneCell' = true := rfl
def okL (l : Lease) : Prop := 0 ≤ l.vip ∧ l.vip ≤ 4294967295 ∧ 0 ≤ l.dip ∧ l.dip ≤ 4294967295 ∧ -9223372036854775808 ≤ l.first ∧ l.first ≤ 9223372036854775807 ∧ -9223372036854775808 ≤ l.exp ∧ l.exp ≤ 9223372036854775807
def leaseCmp (a b : Lease) : Int := orI [cmpI a.vip b.vip, cmpI a.first b.first]
def livesB (l : Lease) (now : Int) : Bool := decide (now ≤ l.exp)
def goodBlock (f : Int) : Bool := decide (1024 ≤ f ∧ f ≤ 65528 ∧ (f - 1024) % 8 = 0)
def lgoodL (l : Lease) : Bool := isHome l.dip && isVip l.vip && goodBlock l.first && decide (0 ≤ l.exp) && decide (l.exp ≤ 1099511627840)
def goodTime (now : Int) : Bool := decide (0 ≤ now) && decide (now ≤ 1099511627776)
def checkFrom : Option Lease → List Lease → Bool
  | _, [] => true
  | p, x :: r => lgoodL x && (match p with | none => true | some y => decide (leaseCmp y x < 0)) && checkFrom (some x) r
def checkL (xs : List Lease) : Bool := checkFrom none xs
def prevOf (xs : List Lease) (k : Nat) : Option Lease := if k = 0 then none else xs[k - 1]?
theorem checkFrom_cons (p : Option Lease) (x : Lease) (r : List Lease) : checkFrom p (x :: r) = (lgoodL x && (match p with | none => true | some y => decide (leaseCmp y x < 0)) && checkFrom (some x) r) := by cases p <;> rfl
theorem check_step {xs : List Lease} {k : Nat} {x : Lease} (h : xs[k]? = some x) : checkFrom (prevOf xs k) (xs.drop k) = (lgoodL x && (match prevOf xs k with | none => true | some y => decide (leaseCmp y x < 0)) && checkFrom (prevOf xs (k + 1)) (xs.drop (k + 1))) := by
  obtain ⟨hk, rfl⟩ := List.getElem?_eq_some_iff.1 h
  rw [List.drop_eq_getElem_cons hk, checkFrom_cons]
  simp [prevOf, hk]
theorem check_end {xs : List Lease} {k : Nat} (h : xs.length ≤ k) (p : Option Lease) : checkFrom p (xs.drop k) = true := by
  rw [List.drop_of_length_le h]; rfl
theorem lives_ct (l : Lease) (now : Int) (w : World) : Calls Tryd.prog 28 #[.agg #[.int .u32 l.vip, .int .i64 l.first, .int .u32 l.dip, .int .i64 l.exp], .int .i64 now] w fun e w' => e = .returned (.bool (livesB l now)) ∧ Fr w w' [] := by
 refine enterD (n := 9) Tryd.func28 rfl rfl (Nat.le_of_ble_eq_true rfl) ?_
 intro Q0 hN hret hret'
 have hC := Cx.start w
 refine WCs (fun K1 hK2 => ?_)
 refine WCg ?_
 refine WL.newM hC (fun b => .pointer (some ⟨b, 0, none⟩)) (.cells #[.int .u32 l.vip, .int .i64 l.first, .int .u32 l.dip, .int .i64 l.exp] 43) 2 (fun _ => by kernel_rfl) (fun g3 w4 hb7 hF5 hC6 => ?_)
 refine WLr 1 [(4, .bool false)] (fun _ => by kernel_rfl) (WLd rfl (QXn (hK2 _ _ ?_)))
 refine WCs (fun K8 hK9 => ?_)
 refine WCg (WLr 2 [(6, .pointer (some ⟨g3, 3, none⟩)), (5, .int .i64 now)] (fun _ => by kernel_rfl) ?_)
 refine WL.load 3 (.pointer (some ⟨g3, 3, none⟩)) (.int .i64 l.exp) 7 (by kernel_rfl) (run_ld (hC6.get 0 rfl) rfl) ?_
 refine WLr 2 [(4, .bool (decide (now ≤ l.exp))), (8, .bool (decide (now ≤ l.exp)))] (fun _ => by kernel_rfl) (WLd rfl (QXn (hK9 _ _ ?_)))
 refine WC.ret ?_
 refine (hret _ _ _ rfl ?_).1
 exact ⟨by simp [shut, livesB], hC6.fr⟩

theorem goodTime_ct (now : Int) (w : World) : Calls Tryd.prog 86 #[.int .i64 now] w fun e w' => e = .returned (.bool (goodTime now)) ∧ Fr w w' [] := by
 refine enterD (n := 9) Tryd.func86 rfl rfl (Nat.le_of_ble_eq_true rfl) ?_
 intro Q0 hN hret hret'
 have hC := Cx.start w
 refine WCs (fun K1 hK2 => ?_)
 refine WCg (WLr 1 [(2, .bool false)] (fun _ => by kernel_rfl) (WLd rfl (QXn (hK2 _ _ ?_))))
 refine WCs (fun K3 hK4 => ?_)
 refine WCg (WLr 3 [(5, .bool (decide (now ≥ 0))), (4, .bool (decide (now ≥ 0))), (3, .int .i64 now)] (fun _ => by kernel_rfl) ?_)
 refine WLa 5 (decide (now ≥ 0)) rfl (fun t5b => ?_) (fun t5b => ?_)
 ·
  have t5 : (0 : Int) ≤ now := by have q_ := of_decide_eq_true t5b; omega
  refine WLr 4 [(2, .bool (decide (now ≤ 1099511627776))), (8, .bool (decide (now ≤ 1099511627776))), (7, .bool (decide (now ≤ 1099511627776))), (6, .int .i64 now)] (fun _ => by kernel_rfl) (WLd rfl (QXn (hK4 _ _ ?_)))
  refine WC.ret ?_
  refine (hret _ _ _ rfl ?_).1
  clear hN hret hret' hK4 hK2
  exact ⟨by simp [shut, goodTime]; try grind, hC.fr⟩
 ·
  have t5 : now < 0 := by have q_ := of_decide_eq_false t5b; omega
  refine WLr 4 [(2, .bool false), (8, .bool false), (7, undef), (6, undef)] (fun _ => by kernel_rfl) (WLd rfl (QXn (hK4 _ _ ?_)))
  refine WC.ret ?_
  refine (hret _ _ _ rfl ?_).1
  clear hN hret hret' hK4 hK2
  exact ⟨by simp [shut, goodTime]; try grind, hC.fr⟩

theorem goodBlock_ct (f : Int) (w : World) : Calls Tryd.prog 52 #[.int .i64 f] w fun e w' => e = .returned (.bool (goodBlock f)) ∧ Fr w w' [] := by
 refine enterD (n := 15) Tryd.func52 rfl rfl (Nat.le_of_ble_eq_true rfl) ?_
 intro Q0 hN hret hret'
 have hC := Cx.start w
 refine WCs (fun K1 hK2 => ?_)
 refine WCg (WLr 1 [(2, .bool false)] (fun _ => by kernel_rfl) (WLd rfl (QXn (hK2 _ _ ?_))))
 refine WCs (fun K3 hK4 => ?_)
 refine WCg (WLr 3 [(5, .bool (decide (f ≥ 1024))), (4, .bool (decide (f ≥ 1024))), (3, .int .i64 f)] (fun _ => by kernel_rfl) ?_)
 refine WLa 5 (decide (f ≥ 1024)) rfl (fun t5b => ?_) (fun t5b => ?_)
 ·
  have t5 : (1024 : Int) ≤ f := by have q_ := of_decide_eq_true t5b; omega
  refine WLr 4 [(9, .bool (decide (f ≤ 65528))), (8, .bool (decide (f ≤ 65528))), (7, .bool (decide (f ≤ 65528))), (6, .int .i64 f)] (fun _ => by kernel_rfl) ?_
  refine WLa 9 (decide (f ≤ 65528)) rfl (fun t6b => ?_) (fun t6b => ?_)
  ·
   have t6 : f ≤ 65528 := by have q_ := of_decide_eq_true t6b; omega
   refine WLr 2 [(11, .int .i64 (IntKind.i64.wrap (f - 1024))), (10, .int .i64 f)] (fun _ => by kernel_rfl) ?_
   refine WLt (show (.int .i64 (IntKind.i64.wrap (f - 1024)) : Value) = .int .i64 (f - 1024) from by rw [wrap_in_i64 (f - 1024) (by omega) (by omega)]) ?_
   refine WLr 1 [(12, .int .i64 (Int.tmod (f - 1024) 8))] (fun _ => by kernel_rfl) ?_
   refine WLt (show (.int .i64 (Int.tmod (f - 1024) 8) : Value) = .int .i64 ((f - 1024) % 8) from by rw [Int.tmod_eq_emod_of_nonneg (by omega)]) ?_
   refine WLr 3 [(2, .bool (((f - 1024) % 8) == 0)), (14, .bool (((f - 1024) % 8) == 0)), (13, .bool (((f - 1024) % 8) == 0))] (fun _ => by kernel_rfl) (WLd rfl (QXn (hK4 _ _ ?_)))
   refine WC.ret ?_
   refine (hret _ _ _ rfl ?_).1
   clear hN hret hret' hK4 hK2
   exact ⟨by simp [shut, goodBlock]; try grind, hC.fr⟩
  ·
   have t6 : (65528 : Int) < f := by have q_ := of_decide_eq_false t6b; omega
   refine WLr 6 [(2, .bool false), (14, .bool false), (13, undef), (12, undef), (11, undef), (10, undef)] (fun _ => by kernel_rfl) (WLd rfl (QXn (hK4 _ _ ?_)))
   refine WC.ret ?_
   refine (hret _ _ _ rfl ?_).1
   clear hN hret hret' hK4 hK2
   exact ⟨by simp [shut, goodBlock]; try grind, hC.fr⟩
 ·
  have t5 : f < 1024 := by have q_ := of_decide_eq_false t5b; omega
  refine WLr 10 [(2, .bool false), (14, .bool false), (13, undef), (12, undef), (11, undef), (10, undef), (9, .bool false), (8, .bool false), (7, undef), (6, undef)] (fun _ => by kernel_rfl) (WLd rfl (QXn (hK4 _ _ ?_)))
  refine WC.ret ?_
  refine (hret _ _ _ rfl ?_).1
  clear hN hret hret' hK4 hK2
  exact ⟨by simp [shut, goodBlock]; try grind, hC.fr⟩

theorem good_ct (l : Lease) (w : World) (hl : okL l) : Calls Tryd.prog 24 #[.agg #[.int .u32 l.vip, .int .i64 l.first, .int .u32 l.dip, .int .i64 l.exp]] w fun e w' => e = .returned (.bool (lgoodL l)) ∧ Fr w w' [] := by
 refine enterD (n := 34) Tryd.func24 rfl rfl (Nat.le_of_ble_eq_true rfl) ?_
 intro Q0 hN hret hret'
 obtain ⟨q1, q2, q3, q4, q5, q6, q7, q8⟩ := hl
 have hC := Cx.start w
 refine WCs (fun K1 hK2 => ?_)
 refine WCg ?_
 refine WL.newM hC (fun b => .pointer (some ⟨b, 0, none⟩)) (.cells #[.int .u32 l.vip, .int .i64 l.first, .int .u32 l.dip, .int .i64 l.exp] 43) 1 (fun _ => by kernel_rfl) (fun g3 w4 hb7 hF5 hC6 => ?_)
 refine WLr 1 [(2, .bool false)] (fun _ => by kernel_rfl) (WLd rfl (QXn (hK2 _ _ ?_)))
 refine WCs (fun K8 hK9 => ?_)
 refine WCg (WLr 1 [(7, .pointer (some ⟨g3, 2, none⟩))] (fun _ => by kernel_rfl) ?_)
 refine WL.load 41 (.pointer (some ⟨g3, 2, none⟩)) (.int .u32 l.dip) 8 (by kernel_rfl) (run_ld (hC6.get 0 rfl) rfl) ?_
 refine WLc rfl rfl rfl rfl rfl (by kernel_rfl) (Home_ct l.dip w4 (by omega) (by omega)) ?_
 rintro _ w11 ⟨rfl, hF10⟩
 refine ⟨_, rfl, ?_⟩
 have hC12 := hC6.call hF10
 refine WLr 7 [(5, .bool (isHome l.dip)), (4, .int .i64 (homeV l.dip)), (3, .int .i64 (homeN l.dip)), (12, .bool (isHome l.dip)), (11, .int .i64 (homeV l.dip)), (10, .int .i64 (homeN l.dip)), (6, .tuple #[.int .i64 (homeN l.dip), .int .i64 (homeV l.dip), .bool (isHome l.dip)])] (fun _ => by kernel_rfl) (WLd rfl (QXn (hK9 _ _ ?_)))
 refine WCs (fun K13 hK14 => ?_)
 refine WCg (WLr 2 [(14, .bool (isHome l.dip)), (13, .bool (isHome l.dip))] (fun _ => by kernel_rfl) ?_)
 refine WLa 14 (isHome l.dip) rfl (fun t15b => ?_) (fun t15b => ?_)
 ·
  refine WLr 1 [(15, .pointer (some ⟨g3, 0, none⟩))] (fun _ => by kernel_rfl) ?_
  refine WL.load 41 (.pointer (some ⟨g3, 0, none⟩)) (.int .u32 l.vip) 16 (by kernel_rfl) (run_ld (hC12.get 0 rfl) rfl) ?_
  refine WLc rfl rfl rfl rfl rfl (by kernel_rfl) (IsVip_ct l.vip w11 (by omega) (by omega)) ?_
  rintro _ w17 ⟨rfl, hF16⟩
  refine ⟨_, rfl, ?_⟩
  have hC18 := hC12.call hF16
  refine WLr 2 [(19, .bool (isVip l.vip)), (18, .bool (isVip l.vip))] (fun _ => by kernel_rfl) ?_
  refine WLa 19 (isVip l.vip) rfl (fun t19b => ?_) (fun t19b => ?_)
  ·
   refine WLr 1 [(20, .pointer (some ⟨g3, 1, none⟩))] (fun _ => by kernel_rfl) ?_
   refine WL.load 3 (.pointer (some ⟨g3, 1, none⟩)) (.int .i64 l.first) 21 (by kernel_rfl) (run_ld (hC18.get 0 rfl) rfl) ?_
   refine WLc rfl rfl rfl rfl rfl (by kernel_rfl) (goodBlock_ct l.first w17) ?_
   rintro _ w21 ⟨rfl, hF20⟩
   refine ⟨_, rfl, ?_⟩
   have hC22 := hC18.call hF20
   refine WLr 2 [(24, .bool (goodBlock l.first)), (23, .bool (goodBlock l.first))] (fun _ => by kernel_rfl) ?_
   refine WLa 24 (goodBlock l.first) rfl (fun t23b => ?_) (fun t23b => ?_)
   ·
    refine WLr 1 [(25, .pointer (some ⟨g3, 3, none⟩))] (fun _ => by kernel_rfl) ?_
    refine WL.load 3 (.pointer (some ⟨g3, 3, none⟩)) (.int .i64 l.exp) 26 (by kernel_rfl) (run_ld (hC22.get 0 rfl) rfl) ?_
    refine WLr 3 [(29, .bool (decide (l.exp ≥ 0))), (28, .bool (decide (l.exp ≥ 0))), (27, .bool (decide (l.exp ≥ 0)))] (fun _ => by kernel_rfl) ?_
    refine WLa 29 (decide (l.exp ≥ 0)) rfl (fun t24b => ?_) (fun t24b => ?_)
    ·
     have t24 : (0 : Int) ≤ l.exp := by have q_ := of_decide_eq_true t24b; omega
     refine WLr 1 [(30, .pointer (some ⟨g3, 3, none⟩))] (fun _ => by kernel_rfl) ?_
     refine WL.load 3 (.pointer (some ⟨g3, 3, none⟩)) (.int .i64 l.exp) 31 (by kernel_rfl) (run_ld (hC22.get 0 rfl) rfl) ?_
     refine WLr 3 [(2, .bool (decide (l.exp ≤ 1099511627840))), (33, .bool (decide (l.exp ≤ 1099511627840))), (32, .bool (decide (l.exp ≤ 1099511627840)))] (fun _ => by kernel_rfl) (WLd rfl (QXn (hK14 _ _ ?_)))
     refine WC.ret ?_
     refine (hret _ _ _ rfl ?_).1
     exact ⟨by simp [shut, lgoodL, *], hC22.fr⟩
    ·
     have t24 : l.exp < 0 := by have q_ := of_decide_eq_false t24b; omega
     refine WLr 5 [(2, .bool false), (33, .bool false), (32, undef), (31, undef), (30, undef)] (fun _ => by kernel_rfl) (WLd rfl (QXn (hK14 _ _ ?_)))
     refine WC.ret ?_
     refine (hret _ _ _ rfl ?_).1
     exact ⟨by simp [shut, lgoodL, *], hC22.fr⟩
   ·
    refine WLr 10 [(2, .bool false), (33, .bool false), (32, undef), (31, undef), (30, undef), (29, .bool false), (28, .bool false), (27, undef), (26, undef), (25, undef)] (fun _ => by kernel_rfl) (WLd rfl (QXn (hK14 _ _ ?_)))
    refine WC.ret ?_
    refine (hret _ _ _ rfl ?_).1
    exact ⟨by simp [shut, lgoodL, *], hC22.fr⟩
  ·
   refine WLr 15 [(2, .bool false), (33, .bool false), (32, undef), (31, undef), (30, undef), (29, .bool false), (28, .bool false), (27, undef), (26, undef), (25, undef), (24, .bool false), (23, .bool false), (22, undef), (21, undef), (20, undef)] (fun _ => by kernel_rfl) (WLd rfl (QXn (hK14 _ _ ?_)))
   refine WC.ret ?_
   refine (hret _ _ _ rfl ?_).1
   exact ⟨by simp [shut, lgoodL, *], hC18.fr⟩
 ·
  refine WLr 20 [(2, .bool false), (33, .bool false), (32, undef), (31, undef), (30, undef), (29, .bool false), (28, .bool false), (27, undef), (26, undef), (25, undef), (24, .bool false), (23, .bool false), (22, undef), (21, undef), (20, undef), (19, .bool false), (18, .bool false), (17, undef), (16, undef), (15, undef)] (fun _ => by kernel_rfl) (WLd rfl (QXn (hK14 _ _ ?_)))
  refine WC.ret ?_
  refine (hret _ _ _ rfl ?_).1
  exact ⟨by simp [shut, lgoodL, *], hC12.fr⟩

theorem leaseCmp_ct (a b : Lease) (w : World) : Calls Tryd.prog 25 #[.agg #[.int .u32 a.vip, .int .i64 a.first, .int .u32 a.dip, .int .i64 a.exp], .agg #[.int .u32 b.vip, .int .i64 b.first, .int .u32 b.dip, .int .i64 b.exp]] w fun e w' => e = .returned (.int .i64 (leaseCmp a b)) ∧ Fr w w' [] := by
 refine enterD (n := 17) Tryd.func25 rfl rfl (Nat.le_of_ble_eq_true rfl) ?_
 intro Q0 hN hret hret'
 have hC := Cx.start w
 refine WCs (fun K1 hK2 => ?_)
 refine WCg ?_
 refine WL.newM hC (fun b => .pointer (some ⟨b, 0, none⟩)) (.cells #[.int .u32 a.vip, .int .i64 a.first, .int .u32 a.dip, .int .i64 a.exp] 43) 2 (fun _ => by kernel_rfl) (fun g3 w4 hb7 hF5 hC6 => ?_)
 refine WL.newM hC6 (fun b => .pointer (some ⟨b, 0, none⟩)) (.cells #[.int .u32 b.vip, .int .i64 b.first, .int .u32 b.dip, .int .i64 b.exp] 43) 3 (fun _ => by kernel_rfl) (fun g8 w9 hb12 hF10 hC11 => ?_)
 refine WLr 1 [(4, .int .i64 0)] (fun _ => by kernel_rfl) (WLd rfl (QXn (hK2 _ _ ?_)))
 refine WCs (fun K13 hK14 => ?_)
 refine WC.drawC hC11 [] (by kernel_rfl) (fun w15 hF16 hC17 hS18 => ?_)
 refine WDp (NPt hN) 0 5 (.pointer (some ⟨g3, 0, none⟩)) (by kernel_rfl) (fun _ => by kernel_rfl) hS18 ?_
 refine WDp (NPt hN) 2 7 (.pointer (some ⟨g8, 0, none⟩)) (by kernel_rfl) (fun _ => by kernel_rfl) hS18 ?_
 refine WDp (NPt hN) 5 10 (.pointer (some ⟨g3, 1, none⟩)) (by kernel_rfl) (fun _ => by kernel_rfl) hS18 ?_
 refine WDp (NPt hN) 7 12 (.pointer (some ⟨g8, 1, none⟩)) (by kernel_rfl) (fun _ => by kernel_rfl) hS18 ?_
 refine WDl (NPt hN) 1 41 (.pointer (some ⟨g3, 0, none⟩)) (.int .u32 a.vip) 6 (by kernel_rfl) (by kernel_rfl) (fun _ hS_ => run_ld (Fr.has hS_ (hC17.get 0 rfl) (by simp)) rfl) hS18 ?_
 refine WDl (NPt hN) 3 41 (.pointer (some ⟨g8, 0, none⟩)) (.int .u32 b.vip) 8 (by kernel_rfl) (by kernel_rfl) (fun _ hS_ => run_ld (Fr.has hS_ (hC17.get 1 rfl) (by simp)) rfl) hS18 ?_
 refine WDl (NPt hN) 6 3 (.pointer (some ⟨g3, 1, none⟩)) (.int .i64 a.first) 11 (by kernel_rfl) (by kernel_rfl) (fun _ hS_ => run_ld (Fr.has hS_ (hC17.get 0 rfl) (by simp)) rfl) hS18 ?_
 refine WDl (NPt hN) 8 3 (.pointer (some ⟨g8, 1, none⟩)) (.int .i64 b.first) 13 (by kernel_rfl) (by kernel_rfl) (fun _ hS_ => run_ld (Fr.has hS_ (hC17.get 1 rfl) (by simp)) rfl) hS18 ?_
 refine WD.call 4 (by kernel_rfl) rfl rfl rfl rfl rfl (by kernel_rfl) (compare_api_Addr a.vip b.vip w15) ?_
 rintro _ w20 ⟨rfl, hF19⟩
 have hS22 := hS18.trans hF19 (by simp)
 refine ⟨_, rfl, hS22, ?_⟩
 have hC21 := hC17.call hF19
 refine WD.call 9 (by kernel_rfl) rfl rfl rfl rfl rfl (by kernel_rfl) (compare_int a.first b.first w20) ?_
 rintro _ w24 ⟨rfl, hF23⟩
 have hS26 := hS22.trans hF23 (by simp)
 refine ⟨_, rfl, hS26, ?_⟩
 have hC25 := hC21.call hF23
 refine WD.new 10 (fun b => .slice (some ⟨b, 0, none⟩) 2 2) (.cells #[.int .i64 (cmpI a.vip b.vip), .int .i64 (cmpI a.first b.first)] 3) (by kernel_rfl) rfl rfl rfl rfl rfl (fun _ => by kernel_rfl) (fun g27 w28 hb31 hl32 hF29 ho33 => ?_)
 have hC30 := hC25.callB hF29 hb31 ho33
 have hS34 := hS26.trans hF29 (by simp)
 refine ⟨hS34, ?_⟩
 refine WD.call 11 (by kernel_rfl) rfl rfl rfl rfl rfl (by kernel_rfl) (or_int (some ⟨g27, 0, none⟩) 2 [cmpI a.vip b.vip, cmpI a.first b.first] w28 (Rd.blk (hC30.get 2 rfl) (encI_len _) rfl) (by simp)) ?_
 rintro _ w36 ⟨rfl, hF35⟩
 have hS38 := hS34.trans hF35 (by simp)
 refine ⟨_, rfl, hS38, ?_⟩
 have hC37 := hC30.call hF35
 refine WDp (NPt hN) 12 4 (.int .i64 (orI [cmpI a.vip b.vip, cmpI a.first b.first])) (by kernel_rfl) (fun _ => by kernel_rfl) hS38 ?_
 refine WD.done (by kernel_rfl) ?_
 refine QXn (hK14 _ _ ?_)
 refine WC.ret ?_
 refine (hret _ _ _ rfl ?_).1
 exact ⟨rfl, hC37.fr⟩

theorem LCheck_ct (A : Option Addr) (c : Nat) (xs : List Lease) (w : World) (hr : Rd w 4 encL A xs) (hwf : ∀ l ∈ xs, okL l) (hm : xs.length < 2 ^ 50) : Calls Tryd.prog 11 #[.slice A xs.length c] w fun e w' => e = .returned (errV 73 (if checkL xs then 0 else 9)) ∧ Fr w w' [] := by
 refine enterD (n := 31) Tryd.func11 rfl rfl (Nat.le_of_ble_eq_true rfl) ?_
 intro Q0 hN hret hret'
 have hC := Cx.start w
 refine WCs (fun K1 hK2 => ?_)
 refine WCg (WLr 1 [(2, .nilIface)] (fun _ => by kernel_rfl) (WLd rfl (QXn (hK2 _ _ ?_))))
 refine WCs (fun K3 hK4 => ?_)
 refine WCs (fun K5 hK6 => ?_)
 refine WCg (WLr 3 [(7, .int .i64 0), (6, .int .i64 (xs.length : Int)), (5, .slice A xs.length c)] (fun _ => by kernel_rfl) (WLd rfl (QXn (hK6 _ _ ?_))))
 refine WC.block ?_
 refine WC.loop (fun m_ E_ w_ => ∃ (k : Nat), m_ = xs.length - k ∧ E_ = [(0, .slice A xs.length c), (5, .slice A xs.length c), (6, .int .i64 (xs.length : Int)), (7, .int .i64 (k : Int))] ∧ Cx w [] w_ [] [] ∧ (k ≤ xs.length ∧ checkL xs = checkFrom (prevOf xs k) (xs.drop k))) ⟨_, _, ⟨0, rfl, rfl, hC, Nat.zero_le _, rfl⟩, sub_of ⟨rfl, rfl, rfl, rfl, trivial⟩⟩ (fun m10 E_ w11 K7 hK8 hI9 => ?_)
 obtain ⟨k, rfl, rfl, hC12, hk, hck⟩ := hI9
 refine WCs (fun K13 hK14 => ?_)
 refine WCg (WLr 1 [(8, .bool (decide ((k : Int) < (xs.length : Int))))] (fun _ => by kernel_rfl) (WLd rfl (QXn (hK14 _ _ ?_))))
 refine WCs (fun K15 hK16 => ?_)
 refine WCa 8 (decide ((k : Int) < (xs.length : Int))) rfl (fun t17b => ?_) (fun t17b => ?_)
 ·
  have t17 : (k : Int) < (xs.length : Int) := by have q_ := of_decide_eq_true t17b; omega
  refine WCt rfl ?_
  refine WC.skip ?_
  refine QXn (hK16 _ _ ?_)
  refine WCs (fun K18 hK19 => ?_)
  refine WC.block ?_
  refine WCs (fun K20 hK21 => ?_)
  refine WCg (WLr 1 [(9, .int .i64 (k : Int))] (fun _ => by kernel_rfl) ?_)
  obtain ⟨e22, he23⟩ := get_some (xs := xs) (i := k) (by omega)
  obtain ⟨b24, o26, hA25, hc27⟩ := hr.at_ _ _ he23
  have hok_e22 := hwf _ (List.mem_of_getElem? he23)
  refine WLi A xs.length c 10 .i64 (k : Int) b24 o26 k 4 (by kernel_rfl) hA25 (by omega) (by omega) (o26 + k * 4) (by first | (simp; done) | omega) ?_
  refine WL.load 43 (.pointer (some ⟨b24, o26 + k * 4, none⟩)) (.agg #[.int .u32 e22.vip, .int .i64 e22.first, .int .u32 e22.dip, .int .i64 e22.exp]) 11 (by kernel_rfl) (run_rdN (l := [.int .u32 e22.vip, .int .i64 e22.first, .int .u32 e22.dip, .int .i64 e22.exp]) rfl rfl (fun j u hu => by have hq_ := hC12.fr.cell (hc27 j u hu) (by simp); simpa [Nat.add_assoc] using hq_)) ?_
  refine WL.newM hC12 (fun b => .pointer (some ⟨b, 0, none⟩)) (.cells #[.int .u32 0, .int .i64 0, .int .u32 0, .int .i64 0] 43) 4 (fun _ => by kernel_rfl) (fun g28 w29 hb32 hF30 hC31 => ?_)
  refine WLr 1 [(3, .int .i64 (k : Int))] (fun _ => by kernel_rfl) ?_
  refine WLs (c' := #[.int .u32 e22.vip, .int .i64 e22.first, .int .u32 e22.dip, .int .i64 e22.exp]) hC31 0 43 g28 0 (.agg #[.int .u32 e22.vip, .int .i64 e22.first, .int .u32 e22.dip, .int .i64 e22.exp]) (by kernel_rfl) rfl (by kernel_rfl) (fun w33 hF35 hC36 => ?_)
  refine WLd rfl (QXn (hK21 _ _ ?_))
  refine WCs (fun K37 hK38 => ?_)
  refine WC.drawC hC36 [] (by kernel_rfl) (fun w39 hF40 hC41 hS42 => ?_)
  refine WDl (NPt (NPb (NPt (NPt (NPb (NPt hN)))))) 0 43 (.pointer (some ⟨g28, 0, none⟩)) (.agg #[.int .u32 e22.vip, .int .i64 e22.first, .int .u32 e22.dip, .int .i64 e22.exp]) 12 (by kernel_rfl) (by kernel_rfl) (fun _ hS_ => run_ld (Fr.has hS_ (hC41.get 0 rfl) (by simp)) rfl) hS42 ?_
  refine WD.call 1 (by kernel_rfl) rfl rfl rfl rfl rfl (by kernel_rfl) (good_ct e22 w39 (by assumption)) ?_
  rintro _ w44 ⟨rfl, hF43⟩
  have hS46 := hS42.trans hF43 (by simp)
  refine ⟨_, rfl, hS46, ?_⟩
  have hC45 := hC41.call hF43
  refine WDp (NPt (NPb (NPt (NPt (NPb (NPt hN)))))) 2 14 (.bool (!(lgoodL e22))) (by kernel_rfl) (fun _ => by kernel_rfl) hS46 ?_
  refine WDp (NPt (NPb (NPt (NPt (NPb (NPt hN)))))) 3 15 (.bool (!(lgoodL e22))) (by kernel_rfl) (fun _ => by kernel_rfl) hS46 ?_
  refine WDa 15 (!(lgoodL e22)) rfl (fun t47b => ?_) (fun t47b => ?_)
  ·
   have t47 : (lgoodL e22) = false := by first | (simpa only [Bool.not_eq_true', Bool.not_eq_false'] using t47b) | simpa using t47b
   refine WDp (NPt (NPb (NPt (NPt (NPb (NPt hN)))))) 4 16 (undef) (by kernel_rfl) (fun _ => by kernel_rfl) hS46 ?_
   refine WDp (NPt (NPb (NPt (NPt (NPb (NPt hN)))))) 5 17 (undef) (by kernel_rfl) (fun _ => by kernel_rfl) hS46 ?_
   refine WDp (NPt (NPb (NPt (NPt (NPb (NPt hN)))))) 6 18 (undef) (by kernel_rfl) (fun _ => by kernel_rfl) hS46 ?_
   refine WDp (NPt (NPb (NPt (NPt (NPb (NPt hN)))))) 7 19 (undef) (by kernel_rfl) (fun _ => by kernel_rfl) hS46 ?_
   refine WDp (NPt (NPb (NPt (NPt (NPb (NPt hN)))))) 8 20 (undef) (by kernel_rfl) (fun _ => by kernel_rfl) hS46 ?_
   refine WDp (NPt (NPb (NPt (NPt (NPb (NPt hN)))))) 9 21 (undef) (by kernel_rfl) (fun _ => by kernel_rfl) hS46 ?_
   refine WDp (NPt (NPb (NPt (NPt (NPb (NPt hN)))))) 10 22 (undef) (by kernel_rfl) (fun _ => by kernel_rfl) hS46 ?_
   refine WDp (NPt (NPb (NPt (NPt (NPb (NPt hN)))))) 11 23 (undef) (by kernel_rfl) (fun _ => by kernel_rfl) hS46 ?_
   refine WDp (NPt (NPb (NPt (NPt (NPb (NPt hN)))))) 12 24 (undef) (by kernel_rfl) (fun _ => by kernel_rfl) hS46 ?_
   refine WDp (NPt (NPb (NPt (NPt (NPb (NPt hN)))))) 13 25 (undef) (by kernel_rfl) (fun _ => by kernel_rfl) hS46 ?_
   refine WDp (NPt (NPb (NPt (NPt (NPb (NPt hN)))))) 14 26 (undef) (by kernel_rfl) (fun _ => by kernel_rfl) hS46 ?_
   refine WDp (NPt (NPb (NPt (NPt (NPb (NPt hN)))))) 15 27 (undef) (by kernel_rfl) (fun _ => by kernel_rfl) hS46 ?_
   refine WDp (NPt (NPb (NPt (NPt (NPb (NPt hN)))))) 16 28 (.bool true) (by kernel_rfl) (fun _ => by kernel_rfl) hS46 ?_
   refine WD.done (by kernel_rfl) ?_
   refine QXn (hK38 _ _ ?_)
   refine WCt rfl ?_
   refine WCs (fun K48 hK49 => ?_)
   refine WCg (WLr 2 [(2, .iface 73 (.int .i64 9)), (29, .iface 73 (.int .i64 9))] (fun _ => by kernel_rfl) (WLd rfl (QXn (hK49 _ _ ?_))))
   refine WC.ret ?_
   refine QXk ?_
   refine QXr ?_
   refine QXr ?_
   refine QXk ?_
   refine QXr ?_
   refine (hret _ _ _ rfl ?_).1
   clear hN hret hret' hK49 hK38 hK21 hK19 hK16 hK14 hK6 hK4 hK2
   refine ⟨?_, hC45.fr⟩
   rw [hck, check_step he23]
   simp [shut, errV, *]; try grind
  ·
   have t47 : (lgoodL e22) = true := by first | (simpa only [Bool.not_eq_true', Bool.not_eq_false'] using t47b) | simpa using t47b
   refine WDp (NPt (NPb (NPt (NPt (NPb (NPt hN)))))) 4 16 (.int .i64 (k : Int)) (by kernel_rfl) (fun _ => by kernel_rfl) hS46 ?_
   refine WDp (NPt (NPb (NPt (NPt (NPb (NPt hN)))))) 5 17 (.bool (decide ((k : Int) > 0))) (by kernel_rfl) (fun _ => by kernel_rfl) hS46 ?_
   refine WDp (NPt (NPb (NPt (NPt (NPb (NPt hN)))))) 6 18 (.bool (decide ((k : Int) > 0))) (by kernel_rfl) (fun _ => by kernel_rfl) hS46 ?_
   refine WDa 18 (decide ((k : Int) > 0)) rfl (fun t50b => ?_) (fun t50b => ?_)
   ·
    have t50 : (0 : Int) < (k : Int) := by have q_ := of_decide_eq_true t50b; omega
    refine WDp (NPt (NPb (NPt (NPt (NPb (NPt hN)))))) 7 19 (.slice A xs.length c) (by kernel_rfl) (fun _ => by kernel_rfl) hS46 ?_
    refine WDp (NPt (NPb (NPt (NPt (NPb (NPt hN)))))) 8 20 (.int .i64 (k : Int)) (by kernel_rfl) (fun _ => by kernel_rfl) hS46 ?_
    refine WDp (NPt (NPb (NPt (NPt (NPb (NPt hN)))))) 9 21 (.int .i64 (IntKind.i64.wrap ((k : Int) - 1))) (by kernel_rfl) (fun _ => by kernel_rfl) hS46 ?_
    refine WD.recast (show (.int .i64 (IntKind.i64.wrap ((k : Int) - 1)) : Value) = .int .i64 ((k - 1 : Nat) : Int) from by rw [wrap_in_i64 _ (by omega) (by omega)]; congr 1; omega) ?_
    obtain ⟨e51, he52⟩ := get_some (xs := xs) (i := (k - 1)) (by omega)
    obtain ⟨b53, o55, hA54, hc56⟩ := hr.at_ _ _ he52
    have hok_e51 := hwf _ (List.mem_of_getElem? he52)
    refine WDi (NPt (NPb (NPt (NPt (NPb (NPt hN)))))) 10 A xs.length c 22 .i64 ((k - 1 : Nat) : Int) b53 o55 (k - 1) 4 (by kernel_rfl) (by kernel_rfl) hA54 (by omega) (by omega) (o55 + (k - 1) * 4) (by first | (simp; done) | omega) hS46 ?_
    refine WDl (NPt (NPb (NPt (NPt (NPb (NPt hN)))))) 11 43 (.pointer (some ⟨b53, o55 + (k - 1) * 4, none⟩)) (.agg #[.int .u32 e51.vip, .int .i64 e51.first, .int .u32 e51.dip, .int .i64 e51.exp]) 23 (by kernel_rfl) (by kernel_rfl) (fun _ hS_ => run_rdN (l := [.int .u32 e51.vip, .int .i64 e51.first, .int .u32 e51.dip, .int .i64 e51.exp]) rfl rfl (fun j u hu => by have hq_ := Fr.cell hS_ (hC41.fr.cell (hc56 j u hu) (by simp)) (by simp); simpa [Nat.add_assoc] using hq_)) hS46 ?_
    refine WDl (NPt (NPb (NPt (NPt (NPb (NPt hN)))))) 12 43 (.pointer (some ⟨g28, 0, none⟩)) (.agg #[.int .u32 e22.vip, .int .i64 e22.first, .int .u32 e22.dip, .int .i64 e22.exp]) 24 (by kernel_rfl) (by kernel_rfl) (fun _ hS_ => run_ld (Fr.has hS_ (hC41.get 0 rfl) (by simp)) rfl) hS46 ?_
    refine WD.call 13 (by kernel_rfl) rfl rfl rfl rfl rfl (by kernel_rfl) (leaseCmp_ct e51 e22 w44) ?_
    rintro _ w58 ⟨rfl, hF57⟩
    have hS60 := hS46.trans hF57 (by simp)
    refine ⟨_, rfl, hS60, ?_⟩
    have hC59 := hC45.call hF57
    refine WDp (NPt (NPb (NPt (NPt (NPb (NPt hN)))))) 14 26 (.bool (decide ((leaseCmp e51 e22) ≥ 0))) (by kernel_rfl) (fun _ => by kernel_rfl) hS60 ?_
    refine WDp (NPt (NPb (NPt (NPt (NPb (NPt hN)))))) 15 27 (.bool (decide ((leaseCmp e51 e22) ≥ 0))) (by kernel_rfl) (fun _ => by kernel_rfl) hS60 ?_
    refine WDp (NPt (NPb (NPt (NPt (NPb (NPt hN)))))) 16 28 (.bool (decide ((leaseCmp e51 e22) ≥ 0))) (by kernel_rfl) (fun _ => by kernel_rfl) hS60 ?_
    refine WD.done (by kernel_rfl) ?_
    refine QXn (hK38 _ _ ?_)
    refine WCa 28 (decide ((leaseCmp e51 e22) ≥ 0)) rfl (fun t61b => ?_) (fun t61b => ?_)
    ·
     have t61 : (0 : Int) ≤ (leaseCmp e51 e22) := by have q_ := of_decide_eq_true t61b; omega
     refine WCt rfl ?_
     refine WCs (fun K62 hK63 => ?_)
     refine WCg (WLr 2 [(2, .iface 73 (.int .i64 9)), (29, .iface 73 (.int .i64 9))] (fun _ => by kernel_rfl) (WLd rfl (QXn (hK63 _ _ ?_))))
     refine WC.ret ?_
     refine QXk ?_
     refine QXr ?_
     refine QXr ?_
     refine QXk ?_
     refine QXr ?_
     refine (hret _ _ _ rfl ?_).1
     clear hN hret hret' hK63 hK38 hK21 hK19 hK16 hK14 hK6 hK4 hK2
     refine ⟨?_, hC59.fr⟩
     rw [hck, check_step he23]
     rw [show prevOf xs k = some e51 from by simp [prevOf, he52]; omega]
     simp [shut, errV, *]; try grind
    ·
     have t61 : (leaseCmp e51 e22) < 0 := by have q_ := of_decide_eq_false t61b; omega
     refine WCf rfl (WC.skip ?_)
     refine QXb ?_
     refine QXn (hK19 _ _ ?_)
     refine WCg (WLr 1 [(30, .int .i64 (IntKind.i64.wrap ((k : Int) + 1)))] (fun _ => by kernel_rfl) ?_)
     refine WLt (show (.int .i64 (IntKind.i64.wrap ((k : Int) + 1)) : Value) = .int .i64 ((k : Int) + 1) from by rw [wrap_in_i64 ((k : Int) + 1) (by omega) (by omega)]) ?_
     refine WLr 1 [(7, .int .i64 ((k : Int) + 1))] (fun _ => by kernel_rfl) ?_
     refine WLd rfl ?_
     refine QXn ?_
     have hC64 := hC59.pick [] [] rfl rfl
     refine fun a_ ha_ => hK8 _ _ _ ?_ ⟨k + 1, rfl, rfl, hC64, by omega, by rw [hck, check_step he23, show prevOf xs k = some e51 from by simp [prevOf, he52]; omega]; simp [*]; try grind⟩ a_ (ha_.weaken (sub_of ⟨rfl, rfl, rfl, rfl, trivial⟩))
     omega
   ·
    have t50 : (k : Int) ≤ 0 := by have q_ := of_decide_eq_false t50b; omega
    refine WDp (NPt (NPb (NPt (NPt (NPb (NPt hN)))))) 7 19 (undef) (by kernel_rfl) (fun _ => by kernel_rfl) hS46 ?_
    refine WDp (NPt (NPb (NPt (NPt (NPb (NPt hN)))))) 8 20 (undef) (by kernel_rfl) (fun _ => by kernel_rfl) hS46 ?_
    refine WDp (NPt (NPb (NPt (NPt (NPb (NPt hN)))))) 9 21 (undef) (by kernel_rfl) (fun _ => by kernel_rfl) hS46 ?_
    refine WDp (NPt (NPb (NPt (NPt (NPb (NPt hN)))))) 10 22 (undef) (by kernel_rfl) (fun _ => by kernel_rfl) hS46 ?_
    refine WDp (NPt (NPb (NPt (NPt (NPb (NPt hN)))))) 11 23 (undef) (by kernel_rfl) (fun _ => by kernel_rfl) hS46 ?_
    refine WDp (NPt (NPb (NPt (NPt (NPb (NPt hN)))))) 12 24 (undef) (by kernel_rfl) (fun _ => by kernel_rfl) hS46 ?_
    refine WDp (NPt (NPb (NPt (NPt (NPb (NPt hN)))))) 13 25 (undef) (by kernel_rfl) (fun _ => by kernel_rfl) hS46 ?_
    refine WDp (NPt (NPb (NPt (NPt (NPb (NPt hN)))))) 14 26 (undef) (by kernel_rfl) (fun _ => by kernel_rfl) hS46 ?_
    refine WDp (NPt (NPb (NPt (NPt (NPb (NPt hN)))))) 15 27 (.bool false) (by kernel_rfl) (fun _ => by kernel_rfl) hS46 ?_
    refine WDp (NPt (NPb (NPt (NPt (NPb (NPt hN)))))) 16 28 (.bool false) (by kernel_rfl) (fun _ => by kernel_rfl) hS46 ?_
    refine WD.done (by kernel_rfl) ?_
    refine QXn (hK38 _ _ ?_)
    refine WCf rfl (WC.skip ?_)
    refine QXb ?_
    refine QXn (hK19 _ _ ?_)
    refine WCg (WLr 1 [(30, .int .i64 (IntKind.i64.wrap ((k : Int) + 1)))] (fun _ => by kernel_rfl) ?_)
    refine WLt (show (.int .i64 (IntKind.i64.wrap ((k : Int) + 1)) : Value) = .int .i64 ((k : Int) + 1) from by rw [wrap_in_i64 ((k : Int) + 1) (by omega) (by omega)]) ?_
    refine WLr 1 [(7, .int .i64 ((k : Int) + 1))] (fun _ => by kernel_rfl) ?_
    refine WLd rfl ?_
    refine QXn ?_
    have hC65 := hC45.pick [] [] rfl rfl
    refine fun a_ ha_ => hK8 _ _ _ ?_ ⟨k + 1, rfl, rfl, hC65, by omega, by rw [hck, check_step he23, show prevOf xs k = none from by simp [prevOf]; omega]; simp [*]⟩ a_ (ha_.weaken (sub_of ⟨rfl, rfl, rfl, rfl, trivial⟩))
    omega
 ·
  have t17 : (xs.length : Int) ≤ (k : Int) := by have q_ := of_decide_eq_false t17b; omega
  refine WCf rfl ?_
  refine WC.exit ?_
  refine QXe ?_
  refine QXe ?_
  refine QX.block_hit ?_
  refine QXn (hK4 _ _ ?_)
  refine WCs (fun K66 hK67 => ?_)
  refine WCg (WLr 1 [(2, .nilIface)] (fun _ => by kernel_rfl) (WLd rfl (QXn (hK67 _ _ ?_))))
  refine WC.ret ?_
  refine (hret _ _ _ rfl ?_).1
  exact ⟨by rw [hck, check_end (by omega)]; rfl, hC12.fr⟩

end Go.Proofs.YtfligklljkcbfaaDoor
