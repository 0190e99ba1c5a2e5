/- Contracts of functions of the program, each proved by a walk through its code; conditions stand in the statements. -/
import Derived.Test.YtoambminolcgfaaDoorProg
import Derived.Test.YtoambminolcgfaaDoorTwRun
namespace Go.Proofs.YtoambminolcgfaaDoor
set_option linter.unusedSimpArgs false
set_option linter.unusedVariables false
set_option linter.unusedSectionVars false
open Go Go.RowKit Go.Tw
set_option linter.unusedVariables false
def cmpI (a b : Int) : Int := if a < b then -1 else if a > b then 1 else 0
def orI : List Int → Int
  | [] => 0
  | x :: r => if x ≠ 0 then x else orI r
theorem orI_drop {xs : List Int} {k : Nat} {x : Int} (h : xs[k]? = some x) : orI (xs.drop k) = if x ≠ 0 then x else orI (xs.drop (k + 1)) := by
  obtain ⟨hk, rfl⟩ := List.getElem?_eq_some_iff.1 h
  rw [List.drop_eq_getElem_cons hk, orI]
theorem isNaN_int (x : Int) (w : World) : Calls Tryd.prog 60 #[.int .i64 x] w fun e w' => e = .returned (.bool false) ∧ Fr w w' [] := by
  refine enterD (n := 6) Tryd.func60 rfl rfl (Nat.le_of_ble_eq_true rfl) ?_
  intro Q0 hN hret hret'
  have hC := Cx.start w
  refine WC.seq (fun K1 hK2 => ?_)
  refine WC.region ?_
  refine WL.runs 1 [(2, .bool false)] (fun _ => by kernel_rfl) ?_
  refine WL.done rfl ?_
  refine QX.then_normal (hK2 _ _ ?_)
  refine WC.seq (fun K3 hK4 => ?_)
  refine WC.region ?_
  refine WL.runs 4 [(2, .bool (x != x)), (5, .bool (x != x)), (4, .int .i64 x), (3, .int .i64 x)] (fun _ => by kernel_rfl) ?_
  refine WL.done rfl ?_
  refine QX.then_normal (hK4 _ _ ?_)
  refine WC.ret ?_
  refine (hret _ _ _ rfl ?_).1
  clear hN hret hret' hK4 hK2
  exact ⟨by simp [shut], hC.fr⟩

theorem compare_int (x y : Int) (w : World) : Calls Tryd.prog 53 #[.int .i64 x, .int .i64 y] w fun e w' => e = .returned (.int .i64 (cmpI x y)) ∧ Fr w w' [] := by
  refine enterD (n := 20) Tryd.func53 rfl rfl (Nat.le_of_ble_eq_true rfl) ?_
  intro Q0 hN hret hret'
  have hC := Cx.start w
  refine WC.seq (fun K1 hK2 => ?_)
  refine WC.region ?_
  refine WL.runs 1 [(4, .int .i64 0)] (fun _ => by kernel_rfl) ?_
  refine WL.done rfl ?_
  refine QX.then_normal (hK2 _ _ ?_)
  refine WC.seq (fun K3 hK4 => ?_)
  refine WC.region ?_
  refine WL.runs 1 [(7, .int .i64 x)] (fun _ => by kernel_rfl) ?_
  refine WL.call rfl rfl rfl rfl rfl (by kernel_rfl) (isNaN_int x w) ?_
  rintro _ w6 ⟨rfl, hF5⟩
  refine ⟨_, rfl, ?_⟩
  have hC7 := hC.call hF5
  refine WL.runs 1 [(5, .bool false)] (fun _ => by kernel_rfl) ?_
  refine WL.done rfl ?_
  refine QX.then_normal (hK4 _ _ ?_)
  refine WC.seq (fun K8 hK9 => ?_)
  refine WC.region ?_
  refine WL.runs 1 [(9, .int .i64 y)] (fun _ => by kernel_rfl) ?_
  refine WL.call rfl rfl rfl rfl rfl (by kernel_rfl) (isNaN_int y w6) ?_
  rintro _ w11 ⟨rfl, hF10⟩
  refine ⟨_, rfl, ?_⟩
  have hC12 := hC7.call hF10
  refine WL.runs 1 [(6, .bool false)] (fun _ => by kernel_rfl) ?_
  refine WL.done rfl ?_
  refine QX.then_normal (hK9 _ _ ?_)
  refine WC.seq (fun K13 hK14 => ?_)
  refine WC.seq (fun K15 hK16 => ?_)
  refine WC.region ?_
  refine WL.runs 1 [(11, .bool false)] (fun _ => by kernel_rfl) ?_
  refine WL.done rfl ?_
  refine QX.then_normal (hK16 _ _ ?_)
  refine WC.cond_false rfl ?_
  refine WC.skip ?_
  refine QX.then_normal (hK14 _ _ ?_)
  refine WC.seq (fun K17 hK18 => ?_)
  refine WC.seq (fun K19 hK20 => ?_)
  refine WC.region ?_
  refine WL.runs 1 [(13, .bool false)] (fun _ => by kernel_rfl) ?_
  refine WL.done rfl ?_
  refine QX.then_normal (hK20 _ _ ?_)
  refine WC.cond_false rfl ?_
  refine WC.skip ?_
  refine QX.then_normal (hK18 _ _ ?_)
  refine WC.seq (fun K21 hK22 => ?_)
  refine WC.seq (fun K23 hK24 => ?_)
  refine WC.region ?_
  refine WL.runs 3 [(16, .bool (decide (x < y))), (15, .int .i64 y), (14, .int .i64 x)] (fun _ => by kernel_rfl) ?_
  refine WL.done rfl ?_
  refine QX.then_normal (hK24 _ _ ?_)
  refine WC.test_at 16 (decide (x < y)) rfl (fun t25b => ?_) (fun t25b => ?_)
  · -- x < y: true
    have t25 : x < y := by have q_ := of_decide_eq_true t25b; omega
    refine WC.cond_true rfl ?_
    refine WC.seq (fun K26 hK27 => ?_)
    refine WC.region ?_
    refine WL.runs 1 [(4, .int .i64 (-1))] (fun _ => by kernel_rfl) ?_
    refine WL.done rfl ?_
    refine QX.then_normal (hK27 _ _ ?_)
    refine WC.ret ?_
    refine QX.then_ret ?_
    refine (hret _ _ _ rfl ?_).1
    clear hN hret hret' hK27 hK24 hK22 hK20 hK18 hK16 hK14 hK9 hK4 hK2
    exact ⟨by simp [shut, cmpI]; try grind, hC12.fr⟩
  · -- x < y: false
    have t25 : y ≤ x := by have q_ := of_decide_eq_false t25b; omega
    refine WC.cond_false rfl ?_
    refine WC.skip ?_
    refine QX.then_normal (hK22 _ _ ?_)
    refine WC.seq (fun K28 hK29 => ?_)
    refine WC.seq (fun K30 hK31 => ?_)
    refine WC.region ?_
    refine WL.runs 3 [(19, .bool (decide (x > y))), (18, .int .i64 y), (17, .int .i64 x)] (fun _ => by kernel_rfl) ?_
    refine WL.done rfl ?_
    refine QX.then_normal (hK31 _ _ ?_)
    refine WC.test_at 19 (decide (x > y)) rfl (fun t32b => ?_) (fun t32b => ?_)
    · -- x > y: true
      have t32 : y < x := by have q_ := of_decide_eq_true t32b; omega
      refine WC.cond_true rfl ?_
      refine WC.seq (fun K33 hK34 => ?_)
      refine WC.region ?_
      refine WL.runs 1 [(4, .int .i64 1)] (fun _ => by kernel_rfl) ?_
      refine WL.done rfl ?_
      refine QX.then_normal (hK34 _ _ ?_)
      refine WC.ret ?_
      refine QX.then_ret ?_
      refine (hret _ _ _ rfl ?_).1
      clear hN hret hret' hK34 hK31 hK29 hK24 hK22 hK20 hK18 hK16 hK14 hK9 hK4 hK2
      exact ⟨by simp [shut, cmpI]; try grind, hC12.fr⟩
    · -- x > y: false
      have t32 : x ≤ y := by have q_ := of_decide_eq_false t32b; omega
      refine WC.cond_false rfl ?_
      refine WC.skip ?_
      refine QX.then_normal (hK29 _ _ ?_)
      refine WC.seq (fun K35 hK36 => ?_)
      refine WC.region ?_
      refine WL.runs 1 [(4, .int .i64 0)] (fun _ => by kernel_rfl) ?_
      refine WL.done rfl ?_
      refine QX.then_normal (hK36 _ _ ?_)
      refine WC.ret ?_
      refine (hret _ _ _ rfl ?_).1
      clear hN hret hret' hK36 hK31 hK29 hK24 hK22 hK20 hK18 hK16 hK14 hK9 hK4 hK2
      exact ⟨by simp [shut, cmpI]; try grind, hC12.fr⟩

theorem isNaN_api_Addr (x : Int) (w : World) : Calls Tryd.prog 59 #[.int .u32 x] w fun e w' => e = .returned (.bool false) ∧ Fr w w' [] := by
  refine enterD (n := 6) Tryd.func59 rfl rfl (Nat.le_of_ble_eq_true rfl) ?_
  intro Q0 hN hret hret'
  have hC := Cx.start w
  refine WC.seq (fun K1 hK2 => ?_)
  refine WC.region ?_
  refine WL.runs 1 [(2, .bool false)] (fun _ => by kernel_rfl) ?_
  refine WL.done rfl ?_
  refine QX.then_normal (hK2 _ _ ?_)
  refine WC.seq (fun K3 hK4 => ?_)
  refine WC.region ?_
  refine WL.runs 4 [(2, .bool (x != x)), (5, .bool (x != x)), (4, .int .u32 x), (3, .int .u32 x)] (fun _ => by kernel_rfl) ?_
  refine WL.done rfl ?_
  refine QX.then_normal (hK4 _ _ ?_)
  refine WC.ret ?_
  refine (hret _ _ _ rfl ?_).1
  clear hN hret hret' hK4 hK2
  exact ⟨by simp [shut], hC.fr⟩

theorem compare_api_Addr (x y : Int) (w : World) : Calls Tryd.prog 52 #[.int .u32 x, .int .u32 y] w fun e w' => e = .returned (.int .i64 (cmpI x y)) ∧ Fr w w' [] := by
  refine enterD (n := 20) Tryd.func52 rfl rfl (Nat.le_of_ble_eq_true rfl) ?_
  intro Q0 hN hret hret'
  have hC := Cx.start w
  refine WC.seq (fun K1 hK2 => ?_)
  refine WC.region ?_
  refine WL.runs 1 [(4, .int .i64 0)] (fun _ => by kernel_rfl) ?_
  refine WL.done rfl ?_
  refine QX.then_normal (hK2 _ _ ?_)
  refine WC.seq (fun K3 hK4 => ?_)
  refine WC.region ?_
  refine WL.runs 1 [(7, .int .u32 x)] (fun _ => by kernel_rfl) ?_
  refine WL.call rfl rfl rfl rfl rfl (by kernel_rfl) (isNaN_api_Addr x w) ?_
  rintro _ w6 ⟨rfl, hF5⟩
  refine ⟨_, rfl, ?_⟩
  have hC7 := hC.call hF5
  refine WL.runs 1 [(5, .bool false)] (fun _ => by kernel_rfl) ?_
  refine WL.done rfl ?_
  refine QX.then_normal (hK4 _ _ ?_)
  refine WC.seq (fun K8 hK9 => ?_)
  refine WC.region ?_
  refine WL.runs 1 [(9, .int .u32 y)] (fun _ => by kernel_rfl) ?_
  refine WL.call rfl rfl rfl rfl rfl (by kernel_rfl) (isNaN_api_Addr y w6) ?_
  rintro _ w11 ⟨rfl, hF10⟩
  refine ⟨_, rfl, ?_⟩
  have hC12 := hC7.call hF10
  refine WL.runs 1 [(6, .bool false)] (fun _ => by kernel_rfl) ?_
  refine WL.done rfl ?_
  refine QX.then_normal (hK9 _ _ ?_)
  refine WC.seq (fun K13 hK14 => ?_)
  refine WC.seq (fun K15 hK16 => ?_)
  refine WC.region ?_
  refine WL.runs 1 [(11, .bool false)] (fun _ => by kernel_rfl) ?_
  refine WL.done rfl ?_
  refine QX.then_normal (hK16 _ _ ?_)
  refine WC.cond_false rfl ?_
  refine WC.skip ?_
  refine QX.then_normal (hK14 _ _ ?_)
  refine WC.seq (fun K17 hK18 => ?_)
  refine WC.seq (fun K19 hK20 => ?_)
  refine WC.region ?_
  refine WL.runs 1 [(13, .bool false)] (fun _ => by kernel_rfl) ?_
  refine WL.done rfl ?_
  refine QX.then_normal (hK20 _ _ ?_)
  refine WC.cond_false rfl ?_
  refine WC.skip ?_
  refine QX.then_normal (hK18 _ _ ?_)
  refine WC.seq (fun K21 hK22 => ?_)
  refine WC.seq (fun K23 hK24 => ?_)
  refine WC.region ?_
  refine WL.runs 3 [(16, .bool (decide (x < y))), (15, .int .u32 y), (14, .int .u32 x)] (fun _ => by kernel_rfl) ?_
  refine WL.done rfl ?_
  refine QX.then_normal (hK24 _ _ ?_)
  refine WC.test_at 16 (decide (x < y)) rfl (fun t25b => ?_) (fun t25b => ?_)
  · -- x < y: true
    have t25 : x < y := by have q_ := of_decide_eq_true t25b; omega
    refine WC.cond_true rfl ?_
    refine WC.seq (fun K26 hK27 => ?_)
    refine WC.region ?_
    refine WL.runs 1 [(4, .int .i64 (-1))] (fun _ => by kernel_rfl) ?_
    refine WL.done rfl ?_
    refine QX.then_normal (hK27 _ _ ?_)
    refine WC.ret ?_
    refine QX.then_ret ?_
    refine (hret _ _ _ rfl ?_).1
    clear hN hret hret' hK27 hK24 hK22 hK20 hK18 hK16 hK14 hK9 hK4 hK2
    exact ⟨by simp [shut, cmpI]; try grind, hC12.fr⟩
  · -- x < y: false
    have t25 : y ≤ x := by have q_ := of_decide_eq_false t25b; omega
    refine WC.cond_false rfl ?_
    refine WC.skip ?_
    refine QX.then_normal (hK22 _ _ ?_)
    refine WC.seq (fun K28 hK29 => ?_)
    refine WC.seq (fun K30 hK31 => ?_)
    refine WC.region ?_
    refine WL.runs 3 [(19, .bool (decide (x > y))), (18, .int .u32 y), (17, .int .u32 x)] (fun _ => by kernel_rfl) ?_
    refine WL.done rfl ?_
    refine QX.then_normal (hK31 _ _ ?_)
    refine WC.test_at 19 (decide (x > y)) rfl (fun t32b => ?_) (fun t32b => ?_)
    · -- x > y: true
      have t32 : y < x := by have q_ := of_decide_eq_true t32b; omega
      refine WC.cond_true rfl ?_
      refine WC.seq (fun K33 hK34 => ?_)
      refine WC.region ?_
      refine WL.runs 1 [(4, .int .i64 1)] (fun _ => by kernel_rfl) ?_
      refine WL.done rfl ?_
      refine QX.then_normal (hK34 _ _ ?_)
      refine WC.ret ?_
      refine QX.then_ret ?_
      refine (hret _ _ _ rfl ?_).1
      clear hN hret hret' hK34 hK31 hK29 hK24 hK22 hK20 hK18 hK16 hK14 hK9 hK4 hK2
      exact ⟨by simp [shut, cmpI]; try grind, hC12.fr⟩
    · -- x > y: false
      have t32 : x ≤ y := by have q_ := of_decide_eq_false t32b; omega
      refine WC.cond_false rfl ?_
      refine WC.skip ?_
      refine QX.then_normal (hK29 _ _ ?_)
      refine WC.seq (fun K35 hK36 => ?_)
      refine WC.region ?_
      refine WL.runs 1 [(4, .int .i64 0)] (fun _ => by kernel_rfl) ?_
      refine WL.done rfl ?_
      refine QX.then_normal (hK36 _ _ ?_)
      refine WC.ret ?_
      refine (hret _ _ _ rfl ?_).1
      clear hN hret hret' hK36 hK31 hK29 hK24 hK22 hK20 hK18 hK16 hK14 hK9 hK4 hK2
      exact ⟨by simp [shut, cmpI]; try grind, hC12.fr⟩

theorem or_int (A : Option Addr) (c : Nat) (xs : List Int) (w : World) (hr : Rd w 1 (encI .i64) A xs) (hm : xs.length < 2 ^ 60) : Calls Tryd.prog 51 #[.slice A xs.length c] w fun e w' => e = .returned (.int .i64 (orI xs)) ∧ Fr w w' [] := by
  refine enterD (n := 18) Tryd.func51 rfl rfl (Nat.le_of_ble_eq_true rfl) ?_
  intro Q0 hN hret hret'
  have hC := Cx.start w
  refine WC.seq (fun K1 hK2 => ?_)
  refine WC.region ?_
  refine WL.runs 1 [(2, .int .i64 0)] (fun _ => by kernel_rfl) ?_
  refine WL.done rfl ?_
  refine QX.then_normal (hK2 _ _ ?_)
  refine WC.seq (fun K3 hK4 => ?_)
  refine WC.region ?_
  refine WL.runs 1 [(3, .int .i64 0)] (fun _ => by kernel_rfl) ?_
  refine WL.done rfl ?_
  refine QX.then_normal (hK4 _ _ ?_)
  refine WC.seq (fun K5 hK6 => ?_)
  refine WC.seq (fun K7 hK8 => ?_)
  refine WC.region ?_
  refine WL.runs 3 [(8, .int .i64 0), (7, .int .i64 (xs.length : Int)), (6, .slice A xs.length c)] (fun _ => by kernel_rfl) ?_
  refine WL.done rfl ?_
  refine QX.then_normal (hK8 _ _ ?_)
  refine WC.block ?_
  refine WC.loop (fun m_ E_ w_ => ∃ (k : Nat), m_ = xs.length - k ∧ E_ = [(0, .slice A xs.length c), (3, .int .i64 0), (6, .slice A xs.length c), (7, .int .i64 (xs.length : Int)), (8, .int .i64 (k : Int))] ∧ Cx w [] w_ [] [] ∧ (k ≤ xs.length ∧ orI xs = orI (xs.drop k))) ⟨_, _, ⟨0, rfl, rfl, hC, Nat.zero_le _, rfl⟩, sub_of ⟨rfl, rfl, rfl, rfl, rfl, trivial⟩⟩ (fun m12 E_ w13 K9 hK10 hI11 => ?_)
  obtain ⟨k, rfl, rfl, hC14, hk, hor⟩ := hI11
  refine WC.seq (fun K15 hK16 => ?_)
  refine WC.region ?_
  refine WL.runs 1 [(9, .bool (decide ((k : Int) < (xs.length : Int))))] (fun _ => by kernel_rfl) ?_
  refine WL.done rfl ?_
  refine QX.then_normal (hK16 _ _ ?_)
  refine WC.seq (fun K17 hK18 => ?_)
  refine WC.test_at 9 (decide ((k : Int) < (xs.length : Int))) rfl (fun t19b => ?_) (fun t19b => ?_)
  · -- (k : Int) < (xs.length : Int): true
    have t19 : (k : Int) < (xs.length : Int) := by have q_ := of_decide_eq_true t19b; omega
    refine WC.cond_true rfl ?_
    refine WC.skip ?_
    refine QX.then_normal (hK18 _ _ ?_)
    refine WC.seq (fun K20 hK21 => ?_)
    refine WC.block ?_
    refine WC.seq (fun K22 hK23 => ?_)
    refine WC.region ?_
    obtain ⟨e24, he25⟩ := get_some (xs := xs) (i := k) (by omega)
    obtain ⟨b26, o28, hA27, hc29⟩ := hr.at_ _ _ he25
    refine WL.index A xs.length c 10 .i64 (k : Int) b26 o28 k 1 (by kernel_rfl) hA27 (by omega) (by omega) (o28 + k) (by first | (simp; done) | omega) ?_
    refine WL.load 3 (.pointer (some ⟨b26, o28 + k, none⟩)) (.int .i64 e24) 11 (by kernel_rfl) (run_load1 rfl (by simpa [Nat.add_assoc] using hC14.fr.cell (hc29 0 _ rfl) (by simp))) ?_
    refine WL.runs 1 [(5, .int .i64 e24)] (fun _ => by kernel_rfl) ?_
    refine WL.done rfl ?_
    refine QX.then_normal (hK23 _ _ ?_)
    refine WC.seq (fun K30 hK31 => ?_)
    refine WC.region ?_
    refine WL.runs 3 [(14, .bool (e24 != 0)), (13, .int .i64 0), (12, .int .i64 e24)] (fun _ => by kernel_rfl) ?_
    refine WL.done rfl ?_
    refine QX.then_normal (hK31 _ _ ?_)
    refine WC.test_at 14 (e24 != 0) rfl (fun t32b => ?_) (fun t32b => ?_)
    · -- e24 ≠ 0: true
      have t32 : e24 ≠ 0 := by simpa using t32b
      refine WC.cond_true rfl ?_
      refine WC.seq (fun K33 hK34 => ?_)
      refine WC.region ?_
      refine WL.runs 2 [(2, .int .i64 e24), (15, .int .i64 e24)] (fun _ => by kernel_rfl) ?_
      refine WL.done rfl ?_
      refine QX.then_normal (hK34 _ _ ?_)
      refine WC.ret ?_
      refine QX.block_ret ?_
      refine QX.then_ret ?_
      refine QX.then_ret ?_
      refine QX.block_ret ?_
      refine QX.then_ret ?_
      refine (hret _ _ _ rfl ?_).1
      clear hN hret hret' hK34 hK31 hK23 hK21 hK18 hK16 hK8 hK6 hK4 hK2
      exact ⟨by simp [shut]; rw [hor, orI_drop he25, if_pos (by assumption)], hC14.fr⟩
    · -- e24 ≠ 0: false
      have t32 : e24 = 0 := by simpa using t32b
      refine WC.cond_false rfl ?_
      refine WC.skip ?_
      refine QX.block_normal ?_
      refine QX.then_normal (hK21 _ _ ?_)
      refine WC.region ?_
      refine WL.runs 1 [(16, .int .i64 (IntKind.i64.wrap ((k : Int) + 1)))] (fun _ => by kernel_rfl) ?_
      refine WL.recast (show (.int .i64 (IntKind.i64.wrap ((k : Int) + 1)) : Value) = .int .i64 ((k : Int) + 1) from by rw [wrap_in_i64 ((k : Int) + 1) (by omega) (by omega)]) ?_
      refine WL.runs 1 [(8, .int .i64 ((k : Int) + 1))] (fun _ => by kernel_rfl) ?_
      refine WL.done rfl ?_
      refine QX.then_normal ?_
      have hC35 := hC14.pick [] [] rfl rfl
      refine fun a_ ha_ => hK10 _ _ _ ?_ ⟨k + 1, rfl, rfl, hC35, by omega, by rw [hor, orI_drop he25]; simp [*]⟩ a_ (ha_.weaken (sub_of ⟨rfl, rfl, rfl, rfl, rfl, trivial⟩))
      omega
  · -- (k : Int) < (xs.length : Int): false
    have t19 : (xs.length : Int) ≤ (k : Int) := by have q_ := of_decide_eq_false t19b; omega
    refine WC.cond_false rfl ?_
    refine WC.exit ?_
    refine QX.then_exit ?_
    refine QX.then_exit ?_
    refine QX.block_hit ?_
    refine QX.then_normal (hK6 _ _ ?_)
    refine WC.seq (fun K36 hK37 => ?_)
    refine WC.region ?_
    refine WL.runs 2 [(2, .int .i64 0), (17, .int .i64 0)] (fun _ => by kernel_rfl) ?_
    refine WL.done rfl ?_
    refine QX.then_normal (hK37 _ _ ?_)
    refine WC.ret ?_
    refine (hret _ _ _ rfl ?_).1
    clear hN hret hret' hK37 hK18 hK16 hK8 hK6 hK4 hK2
    exact ⟨by simp [shut]; rw [hor, List.drop_of_length_le (by omega)]; simp [orI], hC14.fr⟩

theorem and255 (x : Int) (h0 : 0 ≤ x) (h1 : x ≤ 4294967295) : Go.bits .and .u32 x 255 = x % 256 := by
  obtain ⟨n, rfl⟩ := Int.eq_ofNat_of_zero_le h0
  show IntKind.u32.wrap ((BitVec.ofInt 32 (n : Int) &&& BitVec.ofInt 32 255).toNat : Int) = _
  rw [BitVec.toNat_and, BitVec.ofInt_natCast]
  have h2 : (BitVec.ofInt 32 255).toNat = 2 ^ 8 - 1 := by decide
  rw [h2, Nat.and_two_pow_sub_one_eq_mod, BitVec.toNat_ofNat, Nat.mod_eq_of_lt (show n < 2 ^ 32 by omega), IntKind.wrap_u32]
  omega
theorem or_dip (h v : Int) (h0 : 0 ≤ h) (h1 : h < 8) (v0 : 0 ≤ v) (v1 : v < 16) : Go.bits .or .u32 (Go.bits .or .u32 167837696 (IntKind.u32.wrap (IntKind.u32.wrap h * 2 ^ 8))) (IntKind.u32.wrap v) = 167837696 + 256 * h + v := by
  obtain ⟨n, rfl⟩ := Int.eq_ofNat_of_zero_le h0
  obtain ⟨m, rfl⟩ := Int.eq_ofNat_of_zero_le v0
  have hn : n < 8 := by omega
  have hm : m < 16 := by omega
  have key : ∀ n : Fin 8, ∀ m : Fin 16, Go.bits .or .u32 (Go.bits .or .u32 167837696 (IntKind.u32.wrap (IntKind.u32.wrap (n.val : Int) * 2 ^ 8))) (IntKind.u32.wrap (m.val : Int)) = 167837696 + 256 * (n.val : Int) + (m.val : Int) := by decide +kernel
  exact key ⟨n, hn⟩ ⟨m, hm⟩
def dipOk (h v : Int) : Bool := decide (0 ≤ h ∧ h < 8 ∧ 0 ≤ v ∧ v < 16)
def isHome (a : Int) : Bool := decide (167837696 ≤ a ∧ (a - 167837696) / 256 < 8 ∧ (a - 167837696) % 256 < 16)
def isVip (a : Int) : Bool := decide (1 ≤ a / 16777216 ∧ a / 16777216 ≤ 223 ∧ a / 16777216 ≠ 10 ∧ a / 16777216 ≠ 127)
theorem Dip_yes (h v : Int) (w : World) (h0 : 0 ≤ h) (h1 : h < 8) (v0 : 0 ≤ v) (v1 : v < 16) : Calls Tryd.prog 56 #[.int .i64 h, .int .i64 v] w fun e w' => e = .returned (.tuple #[.int .u32 (167837696 + 256 * h + v), .nilIface]) ∧ Fr w w' [] := by
  refine enterD (n := 28) Tryd.func56 rfl rfl (Nat.le_of_ble_eq_true rfl) ?_
  intro Q0 hN hret hret'
  have hC := Cx.start w
  refine WC.seq (fun K1 hK2 => ?_)
  refine WC.region ?_
  refine WL.runs 2 [(5, .nilIface), (4, .int .u32 0)] (fun _ => by kernel_rfl) ?_
  refine WL.done rfl ?_
  refine QX.then_normal (hK2 _ _ ?_)
  refine WC.seq (fun K3 hK4 => ?_)
  refine WC.seq (fun K5 hK6 => ?_)
  refine WC.region ?_
  refine WL.runs 3 [(8, .bool (decide (h < 0))), (7, .bool (decide (h < 0))), (6, .int .i64 h)] (fun _ => by kernel_rfl) ?_
  refine WL.know 8 (.bool (decide (h < 0))) (.bool false) rfl (congrArg Value.bool (by simpa using h0)) ?_
  refine WL.runs 4 [(12, .bool (decide (h ≥ 8))), (11, .bool (decide (h ≥ 8))), (10, .bool (decide (h ≥ 8))), (9, .int .i64 h)] (fun _ => by kernel_rfl) ?_
  refine WL.know 12 (.bool (decide (h ≥ 8))) (.bool false) rfl (congrArg Value.bool (by simpa using h1)) ?_
  refine WL.runs 4 [(16, .bool (decide (v < 0))), (15, .bool (decide (v < 0))), (14, .bool (decide (v < 0))), (13, .int .i64 v)] (fun _ => by kernel_rfl) ?_
  refine WL.know 16 (.bool (decide (v < 0))) (.bool false) rfl (congrArg Value.bool (by simpa using v0)) ?_
  refine WL.runs 3 [(19, .bool (decide (v ≥ 16))), (18, .bool (decide (v ≥ 16))), (17, .int .i64 v)] (fun _ => by kernel_rfl) ?_
  refine WL.done rfl ?_
  refine QX.then_normal (hK6 _ _ ?_)
  refine WC.know 19 (.bool (decide (v ≥ 16))) (.bool false) rfl (congrArg Value.bool (by simpa using v1)) ?_
  refine WC.cond_false rfl ?_
  refine WC.skip ?_
  refine QX.then_normal (hK4 _ _ ?_)
  refine WC.seq (fun K7 hK8 => ?_)
  refine WC.region ?_
  refine WL.runs 9 [(5, .nilIface), (4, .int .u32 (Go.bits .or .u32 (Go.bits .or .u32 167837696 (IntKind.u32.wrap ((IntKind.u32.wrap (h)) * 2 ^ 8))) (IntKind.u32.wrap (v)))), (27, .int .u32 (Go.bits .or .u32 (Go.bits .or .u32 167837696 (IntKind.u32.wrap ((IntKind.u32.wrap (h)) * 2 ^ 8))) (IntKind.u32.wrap (v)))), (26, .int .u32 (IntKind.u32.wrap (v))), (25, .int .i64 v), (24, .int .u32 (Go.bits .or .u32 167837696 (IntKind.u32.wrap ((IntKind.u32.wrap (h)) * 2 ^ 8)))), (23, .int .u32 (IntKind.u32.wrap ((IntKind.u32.wrap (h)) * 2 ^ 8))), (22, .int .u32 (IntKind.u32.wrap (h))), (21, .int .i64 h)] (fun _ => by kernel_rfl) ?_
  refine WL.done rfl ?_
  refine QX.then_normal (hK8 _ _ ?_)
  refine WC.ret ?_
  refine (hret _ _ _ rfl ?_).1
  clear hN hret hret' hK8 hK6 hK4 hK2
  exact ⟨by rw [← or_dip h v h0 h1 v0 v1]; rfl, hC.fr⟩

theorem Dip_no (h v : Int) (w : World) (hb : dipOk h v = false) : Calls Tryd.prog 56 #[.int .i64 h, .int .i64 v] w fun e w' => e = .returned (.tuple #[.int .u32 0, .iface 32 (.int .i64 12)]) ∧ Fr w w' [] := by
  refine enterD (n := 28) Tryd.func56 rfl rfl (Nat.le_of_ble_eq_true rfl) ?_
  intro Q0 hN hret hret'
  have hC := Cx.start w
  refine WC.seq (fun K1 hK2 => ?_)
  refine WC.region ?_
  refine WL.runs 2 [(5, .nilIface), (4, .int .u32 0)] (fun _ => by kernel_rfl) ?_
  refine WL.done rfl ?_
  refine QX.then_normal (hK2 _ _ ?_)
  refine WC.seq (fun K3 hK4 => ?_)
  refine WC.seq (fun K5 hK6 => ?_)
  refine WC.region ?_
  refine WL.runs 3 [(8, .bool (decide (h < 0))), (7, .bool (decide (h < 0))), (6, .int .i64 h)] (fun _ => by kernel_rfl) ?_
  refine WL.test_at 8 (decide (h < 0)) rfl (fun t7b => ?_) (fun t7b => ?_)
  · -- h < 0: true
    have t7 : h < 0 := by have q_ := of_decide_eq_true t7b; omega
    refine WL.runs 11 [(19, .bool true), (18, undef), (17, undef), (16, .bool true), (15, .bool true), (14, undef), (13, undef), (12, .bool true), (11, .bool true), (10, undef), (9, undef)] (fun _ => by kernel_rfl) ?_
    refine WL.done rfl ?_
    refine QX.then_normal (hK6 _ _ ?_)
    refine WC.cond_true rfl ?_
    refine WC.seq (fun K8 hK9 => ?_)
    refine WC.region ?_
    refine WL.runs 3 [(5, .iface 32 (.int .i64 12)), (4, .int .u32 0), (20, .iface 32 (.int .i64 12))] (fun _ => by kernel_rfl) ?_
    refine WL.done rfl ?_
    refine QX.then_normal (hK9 _ _ ?_)
    refine WC.ret ?_
    refine QX.then_ret ?_
    refine (hret _ _ _ rfl ?_).1
    clear hN hret hret' hK9 hK6 hK4 hK2
    exact ⟨rfl, hC.fr⟩
  · -- h < 0: false
    have t7 : (0 : Int) ≤ h := by have q_ := of_decide_eq_false t7b; omega
    refine WL.runs 4 [(12, .bool (decide (h ≥ 8))), (11, .bool (decide (h ≥ 8))), (10, .bool (decide (h ≥ 8))), (9, .int .i64 h)] (fun _ => by kernel_rfl) ?_
    refine WL.test_at 12 (decide (h ≥ 8)) rfl (fun t10b => ?_) (fun t10b => ?_)
    · -- h ≥ 8: true
      have t10 : (8 : Int) ≤ h := by have q_ := of_decide_eq_true t10b; omega
      refine WL.runs 7 [(19, .bool true), (18, undef), (17, undef), (16, .bool true), (15, .bool true), (14, undef), (13, undef)] (fun _ => by kernel_rfl) ?_
      refine WL.done rfl ?_
      refine QX.then_normal (hK6 _ _ ?_)
      refine WC.cond_true rfl ?_
      refine WC.seq (fun K11 hK12 => ?_)
      refine WC.region ?_
      refine WL.runs 3 [(5, .iface 32 (.int .i64 12)), (4, .int .u32 0), (20, .iface 32 (.int .i64 12))] (fun _ => by kernel_rfl) ?_
      refine WL.done rfl ?_
      refine QX.then_normal (hK12 _ _ ?_)
      refine WC.ret ?_
      refine QX.then_ret ?_
      refine (hret _ _ _ rfl ?_).1
      clear hN hret hret' hK12 hK6 hK4 hK2
      exact ⟨rfl, hC.fr⟩
    · -- h ≥ 8: false
      have t10 : h < 8 := by have q_ := of_decide_eq_false t10b; omega
      refine WL.runs 4 [(16, .bool (decide (v < 0))), (15, .bool (decide (v < 0))), (14, .bool (decide (v < 0))), (13, .int .i64 v)] (fun _ => by kernel_rfl) ?_
      refine WL.test_at 16 (decide (v < 0)) rfl (fun t13b => ?_) (fun t13b => ?_)
      · -- v < 0: true
        have t13 : v < 0 := by have q_ := of_decide_eq_true t13b; omega
        refine WL.runs 3 [(19, .bool true), (18, undef), (17, undef)] (fun _ => by kernel_rfl) ?_
        refine WL.done rfl ?_
        refine QX.then_normal (hK6 _ _ ?_)
        refine WC.cond_true rfl ?_
        refine WC.seq (fun K14 hK15 => ?_)
        refine WC.region ?_
        refine WL.runs 3 [(5, .iface 32 (.int .i64 12)), (4, .int .u32 0), (20, .iface 32 (.int .i64 12))] (fun _ => by kernel_rfl) ?_
        refine WL.done rfl ?_
        refine QX.then_normal (hK15 _ _ ?_)
        refine WC.ret ?_
        refine QX.then_ret ?_
        refine (hret _ _ _ rfl ?_).1
        clear hN hret hret' hK15 hK6 hK4 hK2
        exact ⟨rfl, hC.fr⟩
      · -- v < 0: false
        have t13 : (0 : Int) ≤ v := by have q_ := of_decide_eq_false t13b; omega
        refine WL.runs 3 [(19, .bool (decide (v ≥ 16))), (18, .bool (decide (v ≥ 16))), (17, .int .i64 v)] (fun _ => by kernel_rfl) ?_
        refine WL.done rfl ?_
        refine QX.then_normal (hK6 _ _ ?_)
        refine WC.test_at 19 (decide (v ≥ 16)) rfl (fun t16b => ?_) (fun t16b => ?_)
        · -- v ≥ 16: true
          have t16 : (16 : Int) ≤ v := by have q_ := of_decide_eq_true t16b; omega
          refine WC.cond_true rfl ?_
          refine WC.seq (fun K17 hK18 => ?_)
          refine WC.region ?_
          refine WL.runs 3 [(5, .iface 32 (.int .i64 12)), (4, .int .u32 0), (20, .iface 32 (.int .i64 12))] (fun _ => by kernel_rfl) ?_
          refine WL.done rfl ?_
          refine QX.then_normal (hK18 _ _ ?_)
          refine WC.ret ?_
          refine QX.then_ret ?_
          refine (hret _ _ _ rfl ?_).1
          clear hN hret hret' hK18 hK6 hK4 hK2
          exact ⟨rfl, hC.fr⟩
        · -- v ≥ 16: false
          have t16 : v < 16 := by have q_ := of_decide_eq_false t16b; omega
          refine WC.cond_false rfl ?_
          refine WC.skip ?_
          refine QX.then_normal (hK4 _ _ ?_)
          refine WC.seq (fun K19 hK20 => ?_)
          refine WC.region ?_
          refine WL.runs 9 [(5, .nilIface), (4, .int .u32 (Go.bits .or .u32 (Go.bits .or .u32 167837696 (IntKind.u32.wrap ((IntKind.u32.wrap (h)) * 2 ^ 8))) (IntKind.u32.wrap (v)))), (27, .int .u32 (Go.bits .or .u32 (Go.bits .or .u32 167837696 (IntKind.u32.wrap ((IntKind.u32.wrap (h)) * 2 ^ 8))) (IntKind.u32.wrap (v)))), (26, .int .u32 (IntKind.u32.wrap (v))), (25, .int .i64 v), (24, .int .u32 (Go.bits .or .u32 167837696 (IntKind.u32.wrap ((IntKind.u32.wrap (h)) * 2 ^ 8)))), (23, .int .u32 (IntKind.u32.wrap ((IntKind.u32.wrap (h)) * 2 ^ 8))), (22, .int .u32 (IntKind.u32.wrap (h))), (21, .int .i64 h)] (fun _ => by kernel_rfl) ?_
          refine WL.done rfl ?_
          refine QX.then_normal (hK20 _ _ ?_)
          refine WC.ret ?_
          refine (hret _ _ _ rfl ?_).1
          clear hN hret hret' hK20 hK6 hK4 hK2
          exfalso; simp [dipOk] at hb; omega

def homeN (a : Int) : Int := if isHome a then 48 + (a - 167837696) / 256 else 0
def homeV (a : Int) : Int := if isHome a then (a - 167837696) % 256 else 0
theorem home_hit {a : Int} (h0 : 0 ≤ a) (h1 : a ≤ 4294967295) (hd : a / 256 % 256 < 8 ∧ a % 256 < 16) (t : 167837696 + 256 * (a / 256 % 256) + a % 256 = a) : isHome a = true ∧ homeN a = 48 + a / 256 % 256 ∧ homeV a = a % 256 := by
  have h : isHome a = true := by simp [isHome]; omega
  refine ⟨h, ?_, ?_⟩
  · simp [homeN, h]; omega
  · simp [homeV, h]; omega
theorem home_miss {a : Int} (h0 : 0 ≤ a) (h1 : a ≤ 4294967295) (hd : ¬ (a / 256 % 256 < 8 ∧ a % 256 < 16) ∨ ¬ 167837696 + 256 * (a / 256 % 256) + a % 256 = a) : isHome a = false ∧ homeN a = 0 ∧ homeV a = 0 := by
  have h : isHome a = false := by simp [isHome]; omega
  exact ⟨h, by simp [homeN, h], by simp [homeV, h]⟩
theorem Home_ct (a : Int) (w : World) (h0 : 0 ≤ a) (h1 : a ≤ 4294967295) : Calls Tryd.prog 44 #[.int .u32 a] w fun e w' => e = .returned (.tuple #[.int .i64 (homeN a), .int .i64 (homeV a), .bool (isHome a)]) ∧ Fr w w' [] := by
  refine enterD (n := 32) Tryd.func44 rfl rfl (Nat.le_of_ble_eq_true rfl) ?_
  intro Q0 hN hret hret'
  have hC := Cx.start w
  refine WC.seq (fun K1 hK2 => ?_)
  refine WC.region ?_
  refine WL.runs 3 [(4, .bool false), (3, .int .i64 0), (2, .int .i64 0)] (fun _ => by kernel_rfl) ?_
  refine WL.done rfl ?_
  refine QX.then_normal (hK2 _ _ ?_)
  refine WC.seq (fun K3 hK4 => ?_)
  refine WC.region ?_
  refine WL.runs 2 [(10, .int .u32 ((a : Int).fdiv (2 ^ 8))), (9, .int .u32 a)] (fun _ => by kernel_rfl) ?_
  refine WL.recast (show (.int .u32 ((a : Int).fdiv (2 ^ 8)) : Value) = .int .u32 ((a : Int) / 256) from by rw [Int.fdiv_eq_ediv_of_nonneg (a : Int) (by decide)]; rfl) ?_
  refine WL.runs 1 [(11, .int .u32 (Go.bits .and .u32 ((a : Int) / 256) 255))] (fun _ => by kernel_rfl) ?_
  refine WL.recast (show (.int .u32 (Go.bits .and .u32 ((a : Int) / 256) 255) : Value) = .int .u32 (((a : Int) / 256) % 256) from by rw [and255 _ (by omega) (by omega)]) ?_
  refine WL.runs 1 [(12, .int .i64 (IntKind.i64.wrap (((a : Int) / 256) % 256)))] (fun _ => by kernel_rfl) ?_
  refine WL.recast (show (.int .i64 (IntKind.i64.wrap (((a : Int) / 256) % 256)) : Value) = .int .i64 (((a : Int) / 256) % 256) from by rw [wrap_in_i64 (((a : Int) / 256) % 256) (by omega) (by omega)]) ?_
  refine WL.runs 2 [(14, .int .u32 (Go.bits .and .u32 a 255)), (13, .int .u32 a)] (fun _ => by kernel_rfl) ?_
  refine WL.recast (show (.int .u32 (Go.bits .and .u32 a 255) : Value) = .int .u32 (a % 256) from by rw [and255 _ (by omega) (by omega)]) ?_
  refine WL.runs 1 [(15, .int .i64 (IntKind.i64.wrap (a % 256)))] (fun _ => by kernel_rfl) ?_
  refine WL.recast (show (.int .i64 (IntKind.i64.wrap (a % 256)) : Value) = .int .i64 (a % 256) from by rw [wrap_in_i64 (a % 256) (by omega) (by omega)]) ?_
  refine WL.runs 2 [(6, .int .i64 (a % 256)), (5, .int .i64 (((a : Int) / 256) % 256))] (fun _ => by kernel_rfl) ?_
  refine WL.done rfl ?_
  refine QX.then_normal (hK4 _ _ ?_)
  refine WC.seq (fun K5 hK6 => ?_)
  refine WC.seq (fun K7 hK8 => ?_)
  refine WC.region ?_
  refine WL.runs 2 [(18, .int .i64 (a % 256)), (17, .int .i64 (((a : Int) / 256) % 256))] (fun _ => by kernel_rfl) ?_
  by_cases hd : ((a : Int) / 256) % 256 < 8 ∧ a % 256 < 16
  ·
    refine WL.call rfl rfl rfl rfl rfl (by kernel_rfl) (Dip_yes (((a : Int) / 256) % 256) (a % 256) w (by omega) hd.1 (by omega) hd.2) ?_
    rintro _ w10 ⟨rfl, hF9⟩
    refine ⟨_, rfl, ?_⟩
    have hC11 := hC.call hF9
    refine WL.runs 5 [(8, .nilIface), (7, .int .u32 (167837696 + 256 * (((a : Int) / 256) % 256) + (a % 256))), (21, .nilIface), (20, .int .u32 (167837696 + 256 * (((a : Int) / 256) % 256) + (a % 256))), (16, .tuple #[.int .u32 (167837696 + 256 * (((a : Int) / 256) % 256) + (a % 256)), .nilIface])] (fun _ => by kernel_rfl) ?_
    refine WL.done rfl ?_
    refine QX.then_normal (hK8 _ _ ?_)
    refine WC.seq (fun K12 hK13 => ?_)
    refine WC.region ?_
    refine WL.runs 7 [(28, .bool ((167837696 + 256 * (((a : Int) / 256) % 256) + (a % 256)) != a)), (27, .bool ((167837696 + 256 * (((a : Int) / 256) % 256) + (a % 256)) != a)), (26, .int .u32 a), (25, .int .u32 (167837696 + 256 * (((a : Int) / 256) % 256) + (a % 256))), (24, .bool false), (23, .bool false), (22, .nilIface)] (fun _ => by kernel_rfl) ?_
    refine WL.done rfl ?_
    refine QX.then_normal (hK13 _ _ ?_)
    refine WC.test_at 28 ((167837696 + 256 * (((a : Int) / 256) % 256) + (a % 256)) != a) rfl (fun t14b => ?_) (fun t14b => ?_)
    · -- (167837696 + 256 * (((a : Int) / 256) % 256) + (a % 256)) ≠ a: true
      have t14 : (167837696 + 256 * (((a : Int) / 256) % 256) + (a % 256)) ≠ a := by simpa using t14b
      refine WC.cond_true rfl ?_
      refine WC.seq (fun K15 hK16 => ?_)
      refine WC.region ?_
      refine WL.runs 3 [(4, .bool false), (3, .int .i64 0), (2, .int .i64 0)] (fun _ => by kernel_rfl) ?_
      refine WL.done rfl ?_
      refine QX.then_normal (hK16 _ _ ?_)
      refine WC.ret ?_
      refine QX.then_ret ?_
      refine (hret _ _ _ rfl ?_).1
      clear hN hret hret' hK16 hK13 hK8 hK6 hK4 hK2
      obtain ⟨q1, q2, q3⟩ := home_miss h0 h1 (by omega)
      exact ⟨by rw [q1, q2, q3]; rfl, hC11.fr⟩
    · -- (167837696 + 256 * (((a : Int) / 256) % 256) + (a % 256)) ≠ a: false
      have t14 : (167837696 + 256 * (((a : Int) / 256) % 256) + (a % 256)) = a := by simpa using t14b
      refine WC.cond_false rfl ?_
      refine WC.skip ?_
      refine QX.then_normal (hK6 _ _ ?_)
      refine WC.seq (fun K17 hK18 => ?_)
      refine WC.region ?_
      refine WL.runs 2 [(30, .int .i64 (IntKind.i64.wrap (48 + (((a : Int) / 256) % 256)))), (29, .int .i64 (((a : Int) / 256) % 256))] (fun _ => by kernel_rfl) ?_
      refine WL.recast (show (.int .i64 (IntKind.i64.wrap (48 + (((a : Int) / 256) % 256))) : Value) = .int .i64 (48 + (((a : Int) / 256) % 256)) from by rw [wrap_in_i64 (48 + (((a : Int) / 256) % 256)) (by omega) (by omega)]) ?_
      refine WL.runs 4 [(4, .bool true), (3, .int .i64 (a % 256)), (2, .int .i64 (48 + (((a : Int) / 256) % 256))), (31, .int .i64 (a % 256))] (fun _ => by kernel_rfl) ?_
      refine WL.done rfl ?_
      refine QX.then_normal (hK18 _ _ ?_)
      refine WC.ret ?_
      refine (hret _ _ _ rfl ?_).1
      clear hN hret hret' hK18 hK13 hK8 hK6 hK4 hK2
      obtain ⟨q1, q2, q3⟩ := home_hit h0 h1 hd (by omega)
      exact ⟨by rw [q1, q2, q3]; rfl, hC11.fr⟩
  ·
    refine WL.call rfl rfl rfl rfl rfl (by kernel_rfl) (Dip_no (((a : Int) / 256) % 256) (a % 256) w (by simp [dipOk]; omega)) ?_
    rintro _ w20 ⟨rfl, hF19⟩
    refine ⟨_, rfl, ?_⟩
    have hC21 := hC.call hF19
    refine WL.runs 5 [(8, .iface 32 (.int .i64 12)), (7, .int .u32 0), (21, .iface 32 (.int .i64 12)), (20, .int .u32 0), (16, .tuple #[.int .u32 0, .iface 32 (.int .i64 12)])] (fun _ => by kernel_rfl) ?_
    refine WL.done rfl ?_
    refine QX.then_normal (hK8 _ _ ?_)
    refine WC.seq (fun K22 hK23 => ?_)
    refine WC.region ?_
    refine WL.runs 7 [(28, .bool true), (27, undef), (26, undef), (25, undef), (24, .bool true), (23, .bool true), (22, .iface 32 (.int .i64 12))] (fun _ => by kernel_rfl) ?_
    refine WL.done rfl ?_
    refine QX.then_normal (hK23 _ _ ?_)
    refine WC.cond_true rfl ?_
    refine WC.seq (fun K24 hK25 => ?_)
    refine WC.region ?_
    refine WL.runs 3 [(4, .bool false), (3, .int .i64 0), (2, .int .i64 0)] (fun _ => by kernel_rfl) ?_
    refine WL.done rfl ?_
    refine QX.then_normal (hK25 _ _ ?_)
    refine WC.ret ?_
    refine QX.then_ret ?_
    refine (hret _ _ _ rfl ?_).1
    clear hN hret hret' hK25 hK23 hK8 hK6 hK4 hK2
    obtain ⟨q1, q2, q3⟩ := home_miss h0 h1 (by omega)
    exact ⟨by rw [q1, q2, q3]; rfl, hC21.fr⟩

theorem IsVip_ct (a : Int) (w : World) (h0 : 0 ≤ a) (h1 : a ≤ 4294967295) : Calls Tryd.prog 45 #[.int .u32 a] w fun e w' => e = .returned (.bool (isVip a)) ∧ Fr w w' [] := by
  refine enterD (n := 20) Tryd.func45 rfl rfl (Nat.le_of_ble_eq_true rfl) ?_
  intro Q0 hN hret hret'
  have hC := Cx.start w
  refine WC.seq (fun K1 hK2 => ?_)
  refine WC.region ?_
  refine WL.runs 1 [(2, .bool false)] (fun _ => by kernel_rfl) ?_
  refine WL.done rfl ?_
  refine QX.then_normal (hK2 _ _ ?_)
  refine WC.seq (fun K3 hK4 => ?_)
  refine WC.region ?_
  refine WL.runs 2 [(5, .int .u32 ((a : Int).fdiv (2 ^ 24))), (4, .int .u32 a)] (fun _ => by kernel_rfl) ?_
  refine WL.recast (show (.int .u32 ((a : Int).fdiv (2 ^ 24)) : Value) = .int .u32 ((a : Int) / 16777216) from by rw [Int.fdiv_eq_ediv_of_nonneg (a : Int) (by decide)]; rfl) ?_
  refine WL.runs 1 [(3, .int .u32 ((a : Int) / 16777216))] (fun _ => by kernel_rfl) ?_
  refine WL.done rfl ?_
  refine QX.then_normal (hK4 _ _ ?_)
  refine WC.seq (fun K5 hK6 => ?_)
  refine WC.region ?_
  refine WL.runs 3 [(8, .bool (decide (((a : Int) / 16777216) ≥ 1))), (7, .bool (decide (((a : Int) / 16777216) ≥ 1))), (6, .int .u32 ((a : Int) / 16777216))] (fun _ => by kernel_rfl) ?_
  refine WL.test_at 8 (decide (((a : Int) / 16777216) ≥ 1)) rfl (fun t7b => ?_) (fun t7b => ?_)
  · -- ((a : Int) / 16777216) ≥ 1: true
    have t7 : (1 : Int) ≤ ((a : Int) / 16777216) := by have q_ := of_decide_eq_true t7b; omega
    refine WL.runs 4 [(12, .bool (decide (((a : Int) / 16777216) ≤ 223))), (11, .bool (decide (((a : Int) / 16777216) ≤ 223))), (10, .bool (decide (((a : Int) / 16777216) ≤ 223))), (9, .int .u32 ((a : Int) / 16777216))] (fun _ => by kernel_rfl) ?_
    refine WL.test_at 12 (decide (((a : Int) / 16777216) ≤ 223)) rfl (fun t8b => ?_) (fun t8b => ?_)
    · -- ((a : Int) / 16777216) ≤ 223: true
      have t8 : ((a : Int) / 16777216) ≤ 223 := by have q_ := of_decide_eq_true t8b; omega
      refine WL.runs 4 [(16, .bool (((a : Int) / 16777216) != 10)), (15, .bool (((a : Int) / 16777216) != 10)), (14, .bool (((a : Int) / 16777216) != 10)), (13, .int .u32 ((a : Int) / 16777216))] (fun _ => by kernel_rfl) ?_
      refine WL.test_at 16 (((a : Int) / 16777216) != 10) rfl (fun t9b => ?_) (fun t9b => ?_)
      · -- ((a : Int) / 16777216) ≠ 10: true
        have t9 : ((a : Int) / 16777216) ≠ 10 := by simpa using t9b
        refine WL.runs 4 [(2, .bool (((a : Int) / 16777216) != 127)), (19, .bool (((a : Int) / 16777216) != 127)), (18, .bool (((a : Int) / 16777216) != 127)), (17, .int .u32 ((a : Int) / 16777216))] (fun _ => by kernel_rfl) ?_
        refine WL.done rfl ?_
        refine QX.then_normal (hK6 _ _ ?_)
        refine WC.ret ?_
        refine (hret _ _ _ rfl ?_).1
        clear hN hret hret' hK6 hK4 hK2
        exact ⟨by simp [shut, isVip]; grind, hC.fr⟩
      · -- ((a : Int) / 16777216) ≠ 10: false
        have t9 : ((a : Int) / 16777216) = 10 := by simpa using t9b
        refine WL.runs 4 [(2, .bool false), (19, .bool false), (18, undef), (17, undef)] (fun _ => by kernel_rfl) ?_
        refine WL.done rfl ?_
        refine QX.then_normal (hK6 _ _ ?_)
        refine WC.ret ?_
        refine (hret _ _ _ rfl ?_).1
        clear hN hret hret' hK6 hK4 hK2
        exact ⟨by simp [shut, isVip]; grind, hC.fr⟩
    · -- ((a : Int) / 16777216) ≤ 223: false
      have t8 : (223 : Int) < ((a : Int) / 16777216) := by have q_ := of_decide_eq_false t8b; omega
      refine WL.runs 8 [(2, .bool false), (19, .bool false), (18, undef), (17, undef), (16, .bool false), (15, .bool false), (14, undef), (13, undef)] (fun _ => by kernel_rfl) ?_
      refine WL.done rfl ?_
      refine QX.then_normal (hK6 _ _ ?_)
      refine WC.ret ?_
      refine (hret _ _ _ rfl ?_).1
      clear hN hret hret' hK6 hK4 hK2
      exact ⟨by simp [shut, isVip]; grind, hC.fr⟩
  · -- ((a : Int) / 16777216) ≥ 1: false
    have t7 : ((a : Int) / 16777216) < 1 := by have q_ := of_decide_eq_false t7b; omega
    refine WL.runs 12 [(2, .bool false), (19, .bool false), (18, undef), (17, undef), (16, .bool false), (15, .bool false), (14, undef), (13, undef), (12, .bool false), (11, .bool false), (10, undef), (9, undef)] (fun _ => by kernel_rfl) ?_
    refine WL.done rfl ?_
    refine QX.then_normal (hK6 _ _ ?_)
    refine WC.ret ?_
    refine (hret _ _ _ rfl ?_).1
    clear hN hret hret' hK6 hK4 hK2
    exact ⟨by simp [shut, isVip]; grind, hC.fr⟩

end Go.Proofs.YtoambminolcgfaaDoor
