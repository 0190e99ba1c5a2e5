/- Contracts of functions of the program, each proved by a walk through its code; conditions stand in the statements. -/
import Derived.Test.YtimphmcoafapgaaProg
import Derived.Test.YtimphmcoafapgaaTwAny
namespace Go.Proofs.Ytimphmcoafapgaa
set_option linter.unusedSimpArgs false
set_option linter.unusedVariables false
set_option linter.unusedSectionVars false
open Go Go.RowKit Go.Tw
set_option linter.unusedVariables false
set_option maxRecDepth 20000
def cmpI (a b : Int) : Int := if a < b then -1 else if a > b then 1 else 0
def orI : List Int → Int
  | [] => 0
  | x :: r => if x ≠ 0 then x else orI r
theorem orI_drop {xs : List Int} {k : Nat} {x : Int} (h : xs[k]? = some x) : orI (xs.drop k) = if x ≠ 0 then x else orI (xs.drop (k + 1)) := by
  obtain ⟨hk, rfl⟩ := List.getElem?_eq_some_iff.1 h
  rw [List.drop_eq_getElem_cons hk, orI]
theorem isNaN_int (x : Int) (w : World) : Calls Try.prog 60 #[.int .i64 x] w fun e w' => e = .returned (.bool false) ∧ Fr w w' [] := by
  refine enterD (n := 6) Try.func60 rfl rfl (Nat.le_of_ble_eq_true rfl) ?_
  intro Q0 hN hret hret'
  have hC := Cx.start w
  refine WC.seq (fun K1 hK2 => ?_)
  refine WC.region ?_
  refine WL.runs 1 [(2, .bool false)] (fun _ => by kernel_rfl) ?_
  refine WL.done rfl ?_
  refine QX.then_normal (hK2 _ _ ?_)
  refine WC.seq (fun K3 hK4 => ?_)
  refine WC.region ?_
  refine WL.runs 4 [(2, .bool (x != x)), (5, .bool (x != x)), (4, .int .i64 x), (3, .int .i64 x)] (fun _ => by kernel_rfl) ?_
  refine WL.done rfl ?_
  refine QX.then_normal (hK4 _ _ ?_)
  refine WC.ret ?_
  refine (hret _ _ _ rfl ?_).1
  clear hN hret hret' hK4 hK2
  exact ⟨by simp [shut], hC.fr⟩

theorem compare_int (x y : Int) (w : World) : Calls Try.prog 48 #[.int .i64 x, .int .i64 y] w fun e w' => e = .returned (.int .i64 (cmpI x y)) ∧ Fr w w' [] := by
  refine enterD (n := 20) Try.func48 rfl rfl (Nat.le_of_ble_eq_true rfl) ?_
  intro Q0 hN hret hret'
  have hC := Cx.start w
  refine WC.seq (fun K1 hK2 => ?_)
  refine WC.region ?_
  refine WL.runs 1 [(4, .int .i64 0)] (fun _ => by kernel_rfl) ?_
  refine WL.done rfl ?_
  refine QX.then_normal (hK2 _ _ ?_)
  refine WC.seq (fun K3 hK4 => ?_)
  refine WC.region ?_
  refine WL.runs 1 [(7, .int .i64 x)] (fun _ => by kernel_rfl) ?_
  refine WL.call rfl rfl rfl rfl rfl (by kernel_rfl) (isNaN_int x w) ?_
  rintro _ w6 ⟨rfl, hF5⟩
  refine ⟨_, rfl, ?_⟩
  have hC7 := hC.call hF5
  refine WL.runs 1 [(5, .bool false)] (fun _ => by kernel_rfl) ?_
  refine WL.done rfl ?_
  refine QX.then_normal (hK4 _ _ ?_)
  refine WC.seq (fun K8 hK9 => ?_)
  refine WC.region ?_
  refine WL.runs 1 [(9, .int .i64 y)] (fun _ => by kernel_rfl) ?_
  refine WL.call rfl rfl rfl rfl rfl (by kernel_rfl) (isNaN_int y w6) ?_
  rintro _ w11 ⟨rfl, hF10⟩
  refine ⟨_, rfl, ?_⟩
  have hC12 := hC7.call hF10
  refine WL.runs 1 [(6, .bool false)] (fun _ => by kernel_rfl) ?_
  refine WL.done rfl ?_
  refine QX.then_normal (hK9 _ _ ?_)
  refine WC.seq (fun K13 hK14 => ?_)
  refine WC.seq (fun K15 hK16 => ?_)
  refine WC.region ?_
  refine WL.runs 1 [(11, .bool false)] (fun _ => by kernel_rfl) ?_
  refine WL.done rfl ?_
  refine QX.then_normal (hK16 _ _ ?_)
  refine WC.cond_false rfl ?_
  refine WC.skip ?_
  refine QX.then_normal (hK14 _ _ ?_)
  refine WC.seq (fun K17 hK18 => ?_)
  refine WC.seq (fun K19 hK20 => ?_)
  refine WC.region ?_
  refine WL.runs 1 [(13, .bool false)] (fun _ => by kernel_rfl) ?_
  refine WL.done rfl ?_
  refine QX.then_normal (hK20 _ _ ?_)
  refine WC.cond_false rfl ?_
  refine WC.skip ?_
  refine QX.then_normal (hK18 _ _ ?_)
  refine WC.seq (fun K21 hK22 => ?_)
  refine WC.seq (fun K23 hK24 => ?_)
  refine WC.region ?_
  refine WL.runs 3 [(16, .bool (decide (x < y))), (15, .int .i64 y), (14, .int .i64 x)] (fun _ => by kernel_rfl) ?_
  refine WL.done rfl ?_
  refine QX.then_normal (hK24 _ _ ?_)
  refine WC.test_at 16 (decide (x < y)) rfl (fun t25b => ?_) (fun t25b => ?_)
  · -- x < y: true
    have t25 : x < y := by have q_ := of_decide_eq_true t25b; omega
    refine WC.cond_true rfl ?_
    refine WC.seq (fun K26 hK27 => ?_)
    refine WC.region ?_
    refine WL.runs 1 [(4, .int .i64 (-1))] (fun _ => by kernel_rfl) ?_
    refine WL.done rfl ?_
    refine QX.then_normal (hK27 _ _ ?_)
    refine WC.ret ?_
    refine QX.then_ret ?_
    refine (hret _ _ _ rfl ?_).1
    clear hN hret hret' hK27 hK24 hK22 hK20 hK18 hK16 hK14 hK9 hK4 hK2
    exact ⟨by simp [shut, cmpI]; try grind, hC12.fr⟩
  · -- x < y: false
    have t25 : y ≤ x := by have q_ := of_decide_eq_false t25b; omega
    refine WC.cond_false rfl ?_
    refine WC.skip ?_
    refine QX.then_normal (hK22 _ _ ?_)
    refine WC.seq (fun K28 hK29 => ?_)
    refine WC.seq (fun K30 hK31 => ?_)
    refine WC.region ?_
    refine WL.runs 3 [(19, .bool (decide (x > y))), (18, .int .i64 y), (17, .int .i64 x)] (fun _ => by kernel_rfl) ?_
    refine WL.done rfl ?_
    refine QX.then_normal (hK31 _ _ ?_)
    refine WC.test_at 19 (decide (x > y)) rfl (fun t32b => ?_) (fun t32b => ?_)
    · -- x > y: true
      have t32 : y < x := by have q_ := of_decide_eq_true t32b; omega
      refine WC.cond_true rfl ?_
      refine WC.seq (fun K33 hK34 => ?_)
      refine WC.region ?_
      refine WL.runs 1 [(4, .int .i64 1)] (fun _ => by kernel_rfl) ?_
      refine WL.done rfl ?_
      refine QX.then_normal (hK34 _ _ ?_)
      refine WC.ret ?_
      refine QX.then_ret ?_
      refine (hret _ _ _ rfl ?_).1
      clear hN hret hret' hK34 hK31 hK29 hK24 hK22 hK20 hK18 hK16 hK14 hK9 hK4 hK2
      exact ⟨by simp [shut, cmpI]; try grind, hC12.fr⟩
    · -- x > y: false
      have t32 : x ≤ y := by have q_ := of_decide_eq_false t32b; omega
      refine WC.cond_false rfl ?_
      refine WC.skip ?_
      refine QX.then_normal (hK29 _ _ ?_)
      refine WC.seq (fun K35 hK36 => ?_)
      refine WC.region ?_
      refine WL.runs 1 [(4, .int .i64 0)] (fun _ => by kernel_rfl) ?_
      refine WL.done rfl ?_
      refine QX.then_normal (hK36 _ _ ?_)
      refine WC.ret ?_
      refine (hret _ _ _ rfl ?_).1
      clear hN hret hret' hK36 hK31 hK29 hK24 hK22 hK20 hK18 hK16 hK14 hK9 hK4 hK2
      exact ⟨by simp [shut, cmpI]; try grind, hC12.fr⟩

theorem isNaN_api_Addr (x : Int) (w : World) : Calls Try.prog 61 #[.int .u32 x] w fun e w' => e = .returned (.bool false) ∧ Fr w w' [] := by
  refine enterD (n := 6) Try.func61 rfl rfl (Nat.le_of_ble_eq_true rfl) ?_
  intro Q0 hN hret hret'
  have hC := Cx.start w
  refine WC.seq (fun K1 hK2 => ?_)
  refine WC.region ?_
  refine WL.runs 1 [(2, .bool false)] (fun _ => by kernel_rfl) ?_
  refine WL.done rfl ?_
  refine QX.then_normal (hK2 _ _ ?_)
  refine WC.seq (fun K3 hK4 => ?_)
  refine WC.region ?_
  refine WL.runs 4 [(2, .bool (x != x)), (5, .bool (x != x)), (4, .int .u32 x), (3, .int .u32 x)] (fun _ => by kernel_rfl) ?_
  refine WL.done rfl ?_
  refine QX.then_normal (hK4 _ _ ?_)
  refine WC.ret ?_
  refine (hret _ _ _ rfl ?_).1
  clear hN hret hret' hK4 hK2
  exact ⟨by simp [shut], hC.fr⟩

theorem compare_api_Addr (x y : Int) (w : World) : Calls Try.prog 49 #[.int .u32 x, .int .u32 y] w fun e w' => e = .returned (.int .i64 (cmpI x y)) ∧ Fr w w' [] := by
  refine enterD (n := 20) Try.func49 rfl rfl (Nat.le_of_ble_eq_true rfl) ?_
  intro Q0 hN hret hret'
  have hC := Cx.start w
  refine WC.seq (fun K1 hK2 => ?_)
  refine WC.region ?_
  refine WL.runs 1 [(4, .int .i64 0)] (fun _ => by kernel_rfl) ?_
  refine WL.done rfl ?_
  refine QX.then_normal (hK2 _ _ ?_)
  refine WC.seq (fun K3 hK4 => ?_)
  refine WC.region ?_
  refine WL.runs 1 [(7, .int .u32 x)] (fun _ => by kernel_rfl) ?_
  refine WL.call rfl rfl rfl rfl rfl (by kernel_rfl) (isNaN_api_Addr x w) ?_
  rintro _ w6 ⟨rfl, hF5⟩
  refine ⟨_, rfl, ?_⟩
  have hC7 := hC.call hF5
  refine WL.runs 1 [(5, .bool false)] (fun _ => by kernel_rfl) ?_
  refine WL.done rfl ?_
  refine QX.then_normal (hK4 _ _ ?_)
  refine WC.seq (fun K8 hK9 => ?_)
  refine WC.region ?_
  refine WL.runs 1 [(9, .int .u32 y)] (fun _ => by kernel_rfl) ?_
  refine WL.call rfl rfl rfl rfl rfl (by kernel_rfl) (isNaN_api_Addr y w6) ?_
  rintro _ w11 ⟨rfl, hF10⟩
  refine ⟨_, rfl, ?_⟩
  have hC12 := hC7.call hF10
  refine WL.runs 1 [(6, .bool false)] (fun _ => by kernel_rfl) ?_
  refine WL.done rfl ?_
  refine QX.then_normal (hK9 _ _ ?_)
  refine WC.seq (fun K13 hK14 => ?_)
  refine WC.seq (fun K15 hK16 => ?_)
  refine WC.region ?_
  refine WL.runs 1 [(11, .bool false)] (fun _ => by kernel_rfl) ?_
  refine WL.done rfl ?_
  refine QX.then_normal (hK16 _ _ ?_)
  refine WC.cond_false rfl ?_
  refine WC.skip ?_
  refine QX.then_normal (hK14 _ _ ?_)
  refine WC.seq (fun K17 hK18 => ?_)
  refine WC.seq (fun K19 hK20 => ?_)
  refine WC.region ?_
  refine WL.runs 1 [(13, .bool false)] (fun _ => by kernel_rfl) ?_
  refine WL.done rfl ?_
  refine QX.then_normal (hK20 _ _ ?_)
  refine WC.cond_false rfl ?_
  refine WC.skip ?_
  refine QX.then_normal (hK18 _ _ ?_)
  refine WC.seq (fun K21 hK22 => ?_)
  refine WC.seq (fun K23 hK24 => ?_)
  refine WC.region ?_
  refine WL.runs 3 [(16, .bool (decide (x < y))), (15, .int .u32 y), (14, .int .u32 x)] (fun _ => by kernel_rfl) ?_
  refine WL.done rfl ?_
  refine QX.then_normal (hK24 _ _ ?_)
  refine WC.test_at 16 (decide (x < y)) rfl (fun t25b => ?_) (fun t25b => ?_)
  · -- x < y: true
    have t25 : x < y := by have q_ := of_decide_eq_true t25b; omega
    refine WC.cond_true rfl ?_
    refine WC.seq (fun K26 hK27 => ?_)
    refine WC.region ?_
    refine WL.runs 1 [(4, .int .i64 (-1))] (fun _ => by kernel_rfl) ?_
    refine WL.done rfl ?_
    refine QX.then_normal (hK27 _ _ ?_)
    refine WC.ret ?_
    refine QX.then_ret ?_
    refine (hret _ _ _ rfl ?_).1
    clear hN hret hret' hK27 hK24 hK22 hK20 hK18 hK16 hK14 hK9 hK4 hK2
    exact ⟨by simp [shut, cmpI]; try grind, hC12.fr⟩
  · -- x < y: false
    have t25 : y ≤ x := by have q_ := of_decide_eq_false t25b; omega
    refine WC.cond_false rfl ?_
    refine WC.skip ?_
    refine QX.then_normal (hK22 _ _ ?_)
    refine WC.seq (fun K28 hK29 => ?_)
    refine WC.seq (fun K30 hK31 => ?_)
    refine WC.region ?_
    refine WL.runs 3 [(19, .bool (decide (x > y))), (18, .int .u32 y), (17, .int .u32 x)] (fun _ => by kernel_rfl) ?_
    refine WL.done rfl ?_
    refine QX.then_normal (hK31 _ _ ?_)
    refine WC.test_at 19 (decide (x > y)) rfl (fun t32b => ?_) (fun t32b => ?_)
    · -- x > y: true
      have t32 : y < x := by have q_ := of_decide_eq_true t32b; omega
      refine WC.cond_true rfl ?_
      refine WC.seq (fun K33 hK34 => ?_)
      refine WC.region ?_
      refine WL.runs 1 [(4, .int .i64 1)] (fun _ => by kernel_rfl) ?_
      refine WL.done rfl ?_
      refine QX.then_normal (hK34 _ _ ?_)
      refine WC.ret ?_
      refine QX.then_ret ?_
      refine (hret _ _ _ rfl ?_).1
      clear hN hret hret' hK34 hK31 hK29 hK24 hK22 hK20 hK18 hK16 hK14 hK9 hK4 hK2
      exact ⟨by simp [shut, cmpI]; try grind, hC12.fr⟩
    · -- x > y: false
      have t32 : x ≤ y := by have q_ := of_decide_eq_false t32b; omega
      refine WC.cond_false rfl ?_
      refine WC.skip ?_
      refine QX.then_normal (hK29 _ _ ?_)
      refine WC.seq (fun K35 hK36 => ?_)
      refine WC.region ?_
      refine WL.runs 1 [(4, .int .i64 0)] (fun _ => by kernel_rfl) ?_
      refine WL.done rfl ?_
      refine QX.then_normal (hK36 _ _ ?_)
      refine WC.ret ?_
      refine (hret _ _ _ rfl ?_).1
      clear hN hret hret' hK36 hK31 hK29 hK24 hK22 hK20 hK18 hK16 hK14 hK9 hK4 hK2
      exact ⟨by simp [shut, cmpI]; try grind, hC12.fr⟩

theorem or_int (A : Option Addr) (c : Nat) (xs : List Int) (w : World) (hr : Rd w 1 (encI .i64) A xs) (hm : xs.length < 2 ^ 60) : Calls Try.prog 47 #[.slice A xs.length c] w fun e w' => e = .returned (.int .i64 (orI xs)) ∧ Fr w w' [] := by
  refine enterD (n := 18) Try.func47 rfl rfl (Nat.le_of_ble_eq_true rfl) ?_
  intro Q0 hN hret hret'
  have hC := Cx.start w
  refine WC.seq (fun K1 hK2 => ?_)
  refine WC.region ?_
  refine WL.runs 1 [(2, .int .i64 0)] (fun _ => by kernel_rfl) ?_
  refine WL.done rfl ?_
  refine QX.then_normal (hK2 _ _ ?_)
  refine WC.seq (fun K3 hK4 => ?_)
  refine WC.region ?_
  refine WL.runs 1 [(3, .int .i64 0)] (fun _ => by kernel_rfl) ?_
  refine WL.done rfl ?_
  refine QX.then_normal (hK4 _ _ ?_)
  refine WC.seq (fun K5 hK6 => ?_)
  refine WC.seq (fun K7 hK8 => ?_)
  refine WC.region ?_
  refine WL.runs 3 [(8, .int .i64 0), (7, .int .i64 (xs.length : Int)), (6, .slice A xs.length c)] (fun _ => by kernel_rfl) ?_
  refine WL.done rfl ?_
  refine QX.then_normal (hK8 _ _ ?_)
  refine WC.block ?_
  refine WC.loop (fun m_ E_ w_ => ∃ (k : Nat), m_ = xs.length - k ∧ E_ = [(0, .slice A xs.length c), (3, .int .i64 0), (6, .slice A xs.length c), (7, .int .i64 (xs.length : Int)), (8, .int .i64 (k : Int))] ∧ Cx w [] w_ [] [] ∧ (k ≤ xs.length ∧ orI xs = orI (xs.drop k))) ⟨_, _, ⟨0, rfl, rfl, hC, Nat.zero_le _, rfl⟩, sub_of ⟨rfl, rfl, rfl, rfl, rfl, trivial⟩⟩ (fun m12 E_ w13 K9 hK10 hI11 => ?_)
  obtain ⟨k, rfl, rfl, hC14, hk, hor⟩ := hI11
  refine WC.seq (fun K15 hK16 => ?_)
  refine WC.region ?_
  refine WL.runs 1 [(9, .bool (decide ((k : Int) < (xs.length : Int))))] (fun _ => by kernel_rfl) ?_
  refine WL.done rfl ?_
  refine QX.then_normal (hK16 _ _ ?_)
  refine WC.seq (fun K17 hK18 => ?_)
  refine WC.test_at 9 (decide ((k : Int) < (xs.length : Int))) rfl (fun t19b => ?_) (fun t19b => ?_)
  · -- (k : Int) < (xs.length : Int): true
    have t19 : (k : Int) < (xs.length : Int) := by have q_ := of_decide_eq_true t19b; omega
    refine WC.cond_true rfl ?_
    refine WC.skip ?_
    refine QX.then_normal (hK18 _ _ ?_)
    refine WC.seq (fun K20 hK21 => ?_)
    refine WC.block ?_
    refine WC.seq (fun K22 hK23 => ?_)
    refine WC.region ?_
    obtain ⟨e24, he25⟩ := get_some (xs := xs) (i := k) (by omega)
    obtain ⟨b26, o28, hA27, hc29⟩ := hr.at_ _ _ he25
    refine WL.index A xs.length c 10 .i64 (k : Int) b26 o28 k 1 (by kernel_rfl) hA27 (by omega) (by omega) (o28 + k) (by first | (simp; done) | omega) ?_
    refine WL.load 3 (.pointer (some ⟨b26, o28 + k, none⟩)) (.int .i64 e24) 11 (by kernel_rfl) (run_load1 rfl (by simpa [Nat.add_assoc] using hC14.fr.cell (hc29 0 _ rfl) (by simp))) ?_
    refine WL.runs 1 [(5, .int .i64 e24)] (fun _ => by kernel_rfl) ?_
    refine WL.done rfl ?_
    refine QX.then_normal (hK23 _ _ ?_)
    refine WC.seq (fun K30 hK31 => ?_)
    refine WC.region ?_
    refine WL.runs 3 [(14, .bool (e24 != 0)), (13, .int .i64 0), (12, .int .i64 e24)] (fun _ => by kernel_rfl) ?_
    refine WL.done rfl ?_
    refine QX.then_normal (hK31 _ _ ?_)
    refine WC.test_at 14 (e24 != 0) rfl (fun t32b => ?_) (fun t32b => ?_)
    · -- e24 ≠ 0: true
      have t32 : e24 ≠ 0 := by simpa using t32b
      refine WC.cond_true rfl ?_
      refine WC.seq (fun K33 hK34 => ?_)
      refine WC.region ?_
      refine WL.runs 2 [(2, .int .i64 e24), (15, .int .i64 e24)] (fun _ => by kernel_rfl) ?_
      refine WL.done rfl ?_
      refine QX.then_normal (hK34 _ _ ?_)
      refine WC.ret ?_
      refine QX.block_ret ?_
      refine QX.then_ret ?_
      refine QX.then_ret ?_
      refine QX.block_ret ?_
      refine QX.then_ret ?_
      refine (hret _ _ _ rfl ?_).1
      clear hN hret hret' hK34 hK31 hK23 hK21 hK18 hK16 hK8 hK6 hK4 hK2
      exact ⟨by simp [shut]; rw [hor, orI_drop he25, if_pos (by assumption)], hC14.fr⟩
    · -- e24 ≠ 0: false
      have t32 : e24 = 0 := by simpa using t32b
      refine WC.cond_false rfl ?_
      refine WC.skip ?_
      refine QX.block_normal ?_
      refine QX.then_normal (hK21 _ _ ?_)
      refine WC.region ?_
      refine WL.runs 1 [(16, .int .i64 (IntKind.i64.wrap ((k : Int) + 1)))] (fun _ => by kernel_rfl) ?_
      refine WL.recast (show (.int .i64 (IntKind.i64.wrap ((k : Int) + 1)) : Value) = .int .i64 ((k : Int) + 1) from by rw [wrap_in_i64 ((k : Int) + 1) (by omega) (by omega)]) ?_
      refine WL.runs 1 [(8, .int .i64 ((k : Int) + 1))] (fun _ => by kernel_rfl) ?_
      refine WL.done rfl ?_
      refine QX.then_normal ?_
      have hC35 := hC14.pick [] [] rfl rfl
      refine fun a_ ha_ => hK10 _ _ _ ?_ ⟨k + 1, rfl, rfl, hC35, by omega, by rw [hor, orI_drop he25]; simp [*]⟩ a_ (ha_.weaken (sub_of ⟨rfl, rfl, rfl, rfl, rfl, trivial⟩))
      omega
  · -- (k : Int) < (xs.length : Int): false
    have t19 : (xs.length : Int) ≤ (k : Int) := by have q_ := of_decide_eq_false t19b; omega
    refine WC.cond_false rfl ?_
    refine WC.exit ?_
    refine QX.then_exit ?_
    refine QX.then_exit ?_
    refine QX.block_hit ?_
    refine QX.then_normal (hK6 _ _ ?_)
    refine WC.seq (fun K36 hK37 => ?_)
    refine WC.region ?_
    refine WL.runs 2 [(2, .int .i64 0), (17, .int .i64 0)] (fun _ => by kernel_rfl) ?_
    refine WL.done rfl ?_
    refine QX.then_normal (hK37 _ _ ?_)
    refine WC.ret ?_
    refine (hret _ _ _ rfl ?_).1
    clear hN hret hret' hK37 hK18 hK16 hK8 hK6 hK4 hK2
    exact ⟨by simp [shut]; rw [hor, List.drop_of_length_le (by omega)]; simp [orI], hC14.fr⟩

structure Flow where
  proto : Int
  src : Int
  sport : Int
  dst : Int
  dport : Int
deriving DecidableEq
structure Ent where
  flow : Flow
  dip : Int
  epoch : Int
  trusted : Bool
  closing : Bool
  last : Int
deriving DecidableEq
def cellsF (f : Flow) : List Value := [.int .i64 f.proto, .int .u32 f.src, .int .i64 f.sport, .int .u32 f.dst, .int .i64 f.dport]
def encF (f : Flow) : Value := .agg #[.int .i64 f.proto, .int .u32 f.src, .int .i64 f.sport, .int .u32 f.dst, .int .i64 f.dport]
def encE (e : Ent) : Value := .agg #[.int .i64 e.flow.proto, .int .u32 e.flow.src, .int .i64 e.flow.sport, .int .u32 e.flow.dst, .int .i64 e.flow.dport, .int .u32 e.dip, .int .i64 e.epoch, .bool e.trusted, .bool e.closing, .int .i64 e.last]
def zeroE : Ent := ⟨⟨0, 0, 0, 0, 0⟩, 0, 0, false, false, 0⟩
theorem flow_eq {a b : Flow} : a = b ↔ a.proto = b.proto ∧ a.src = b.src ∧ a.sport = b.sport ∧ a.dst = b.dst ∧ a.dport = b.dport := by cases a; cases b; simp
def goodF (f : Flow) : Bool := (decide (f.proto = 6) || decide (f.proto = 17)) && (decide (0 ≤ f.sport) && decide (f.sport ≤ 65535)) && (decide (0 ≤ f.dport) && decide (f.dport ≤ 65535))
def goodTime (now : Int) : Bool := decide (0 ≤ now) && decide (now ≤ 1099511627776)
def lessF (a b : Flow) : Bool := decide (orI [cmpI a.proto b.proto, cmpI a.src b.src, cmpI a.sport b.sport, cmpI a.dst b.dst, cmpI a.dport b.dport] < 0)
theorem orI_cmp {x y : Int} {r : List Int} : orI (cmpI x y :: r) < 0 ↔ x < y ∨ (x = y ∧ orI r < 0) := by
  show (if cmpI x y ≠ 0 then cmpI x y else orI r) < 0 ↔ _
  unfold cmpI
  by_cases h1 : x < y
  · simp [h1]
  · by_cases h2 : x > y
    · have : ¬ x = y := by omega
      simp [h1, h2, this]
    · have : x = y := by omega
      simp [this]
theorem lessF_iff {a b : Flow} : lessF a b = true ↔ a.proto < b.proto ∨ (a.proto = b.proto ∧ (a.src < b.src ∨ (a.src = b.src ∧ (a.sport < b.sport ∨ (a.sport = b.sport ∧ (a.dst < b.dst ∨ (a.dst = b.dst ∧ a.dport < b.dport))))))) := by
  simp only [lessF, decide_eq_true_eq, orI_cmp]
  have : ¬ orI [] < 0 := by simp [orI]
  simp [this]
theorem lessF_trans {a b c : Flow} (h : lessF a b = true) (k : lessF b c = true) : lessF a c = true := by
  rw [lessF_iff] at *; omega
def older (a b : Ent) : Bool := decide (a.last < b.last) || (decide (a.last = b.last) && lessF a.flow b.flow)
theorem older_trans {a b c : Ent} (h : older a b = true) (k : older b c = true) : older a c = true := by
  simp only [older, Bool.or_eq_true, Bool.and_eq_true, decide_eq_true_eq] at *
  rcases h with h | ⟨h1, h2⟩ <;> rcases k with k | ⟨k1, k2⟩
  · left; omega
  · left; omega
  · left; omega
  · right; exact ⟨by omega, lessF_trans h2 k2⟩
/-- the entry that is put out first: what 'oldest' answers -/
def Best (m : List (Flow × Ent)) (found : Bool) (e : Ent) : Prop := if found then (∃ p ∈ m, p.2 = e) ∧ e.trusted = false ∧ (∀ p ∈ m, p.2.trusted = false → older p.2 e = false) else e = zeroE ∧ ∀ p ∈ m, p.2.trusted = true
theorem Best.start : Best [] false zeroE := by simp [Best]
theorem Best.skip {vis : List (Flow × Ent)} {fd : Bool} {e : Ent} {p : Flow × Ent} (h : Best vis fd e) (ht : p.2.trusted = true) : Best (vis ++ [p]) fd e := by
  unfold Best at h ⊢
  split
  · rw [if_pos (by assumption)] at h
    obtain ⟨⟨q, hq, hqe⟩, h2, h3⟩ := h
    refine ⟨⟨q, by simp [hq], hqe⟩, h2, fun x hx hxt => ?_⟩
    rcases List.mem_append.1 hx with hx | hx
    · exact h3 x hx hxt
    · obtain rfl := List.mem_singleton.1 hx; rw [ht] at hxt; cases hxt
  · rw [if_neg (by assumption)] at h
    refine ⟨h.1, fun x hx => ?_⟩
    rcases List.mem_append.1 hx with hx | hx
    · exact h.2 x hx
    · obtain rfl := List.mem_singleton.1 hx; exact ht
theorem Best.stay {vis : List (Flow × Ent)} {e : Ent} {p : Flow × Ent} (h : Best vis true e) (ho : older p.2 e = false) : Best (vis ++ [p]) true e := by
  simp only [Best, if_true] at h ⊢
  obtain ⟨⟨q, hq, hqe⟩, h2, h3⟩ := h
  refine ⟨⟨q, by simp [hq], hqe⟩, h2, fun x hx hxt => ?_⟩
  rcases List.mem_append.1 hx with hx | hx
  · exact h3 x hx hxt
  · obtain rfl := List.mem_singleton.1 hx; exact ho
theorem older_irr (e : Ent) : older e e = false := by
  cases h : older e e
  · rfl
  · simp only [older, Bool.or_eq_true, Bool.and_eq_true, decide_eq_true_eq] at h
    rcases h with h | ⟨_, h⟩
    · omega
    · rw [lessF_iff] at h; omega
theorem Best.first {vis : List (Flow × Ent)} {e : Ent} {p : Flow × Ent} (h : Best vis false e) (ht : p.2.trusted = false) : Best (vis ++ [p]) true p.2 := by
  simp only [Best, if_true, Bool.false_eq_true, if_false] at h ⊢
  refine ⟨⟨p, by simp, rfl⟩, ht, fun x hx hxt => ?_⟩
  rcases List.mem_append.1 hx with hx | hx
  · rw [h.2 x hx] at hxt; cases hxt
  · obtain rfl := List.mem_singleton.1 hx; exact older_irr _
theorem Best.next {vis : List (Flow × Ent)} {e : Ent} {p : Flow × Ent} (h : Best vis true e) (ht : p.2.trusted = false) (ho : older p.2 e = true) : Best (vis ++ [p]) true p.2 := by
  simp only [Best, if_true] at h ⊢
  obtain ⟨_, h2, h3⟩ := h
  refine ⟨⟨p, by simp, rfl⟩, ht, fun x hx hxt => ?_⟩
  rcases List.mem_append.1 hx with hx | hx
  · cases hc : older x.2 p.2
    · rfl
    · have := h3 x hx hxt; rw [older_trans hc ho] at this; cases this
  · obtain rfl := List.mem_singleton.1 hx; exact older_irr _
theorem Best.perm {vis m : List (Flow × Ent)} {fd : Bool} {e : Ent} (h : Best vis fd e) (hp : vis.Perm m) : Best m fd e := by
  unfold Best at h ⊢
  split
  · rw [if_pos (by assumption)] at h
    obtain ⟨⟨q, hq, hqe⟩, h2, h3⟩ := h
    exact ⟨⟨q, hp.mem_iff.1 hq, hqe⟩, h2, fun x hx => h3 x (hp.mem_iff.2 hx)⟩
  · rw [if_neg (by assumption)] at h
    exact ⟨h.1, fun x hx => h.2 x (hp.mem_iff.2 hx)⟩
theorem Best.stay2 {vis : List (Flow × Ent)} {fd : Bool} {e : Ent} {p : Flow × Ent} (h : Best vis fd e) (hf : fd = true) (ho : older p.2 e = false) : Best (vis ++ [p]) fd e := by subst hf; exact h.stay ho
theorem Best.first2 {vis : List (Flow × Ent)} {fd : Bool} {e : Ent} {p : Flow × Ent} (h : Best vis fd e) (hf : fd = false) (ht : p.2.trusted = false) : Best (vis ++ [p]) true p.2 := by subst hf; exact h.first ht
theorem Best.next2 {vis : List (Flow × Ent)} {fd : Bool} {e : Ent} {p : Flow × Ent} (h : Best vis fd e) (hf : fd = true) (ht : p.2.trusted = false) (ho : older p.2 e = true) : Best (vis ++ [p]) true p.2 := by subst hf; exact h.next ht ho
/-- a table: its entries, how many are trusted and may be, how many not and may be -/
structure Tb where
  m : List (Flow × Ent)
  th : Int
  tm : Int
  uh : Int
  um : Int
def rem1 (T : Tb) (f : Flow) : Tb := match lookL T.m f with
  | none => T
  | some e => if e.trusted then { T with m := delL T.m f, th := T.th - 1 } else { T with m := delL T.m f, uh := T.uh - 1 }
def tbAt (w : World) (p b : Nat) (T : Tb) : Prop := p ≠ b ∧ w.heap[p]? = some (.cells #[.map (some b), .int .i64 T.th, .int .i64 T.tm, .int .i64 T.uh, .int .i64 T.um] 75 (0, 0)) ∧ ∃ es cl, w.heap[b]? = some (.map es cl) ∧ MapOk encF encE es cl T.m
theorem tbAt_fr {w w' : World} {p b : Nat} {T : Tb} {F : List Nat} (h : tbAt w p b T) (hf : Fr w w' F) (hd : ∀ x ∈ [p, b], x ∉ F) : tbAt w' p b T := by
  obtain ⟨h1, h2, es, cl, h3, h4⟩ := h
  exact ⟨h1, hf.has h2 (hd p (by simp)), es, cl, hf.has h3 (hd b (by simp)), h4⟩
theorem tbAt_lt {w : World} {p b : Nat} {T : Tb} (h : tbAt w p b T) : ∀ x ∈ [p, b], x < w.heap.size := by
  obtain ⟨_, h2, es, cl, h3, _⟩ := h
  intro x hx
  simp only [List.mem_cons, List.not_mem_nil, or_false] at hx
  rcases hx with rfl | rfl
  · exact lt_of_heap h2
  · exact lt_of_heap h3
inductive PutRel (T : Tb) (f : Flow) (dip ep now : Int) : Tb → Ent → Bool → Int → Prop
  | form : goodF f = false → PutRel T f dip ep now T zeroE false 9
  | range : goodF f = true → goodTime now = false → PutRel T f dip ep now T zeroE false 4
  | old (e : Ent) : goodF f = true → goodTime now = true → lookL T.m f = some e → PutRel T f dip ep now { T with m := putL T.m f { e with dip := dip, epoch := ep, last := now, closing := false } } zeroE false 0
  | empty : goodF f = true → goodTime now = true → lookL T.m f = none → T.um = 0 → PutRel T f dip ep now T zeroE false 5
  | new : goodF f = true → goodTime now = true → lookL T.m f = none → T.um ≠ 0 → T.uh < T.um → PutRel T f dip ep now { T with m := putL T.m f ⟨f, dip, ep, false, false, now⟩, uh := T.uh + 1 } zeroE false 0
  | full (o : Ent) (fd : Bool) : goodF f = true → goodTime now = true → lookL T.m f = none → T.um ≠ 0 → ¬ T.uh < T.um → Best T.m fd o → PutRel T f dip ep now { rem1 T o.flow with m := putL (rem1 T o.flow).m f ⟨f, dip, ep, false, false, now⟩, uh := (rem1 T o.flow).uh + 1 } o true 0
theorem rem1_um (T : Tb) (f : Flow) : (rem1 T f).um = T.um ∧ (rem1 T f).tm = T.tm ∧ T.uh - 1 ≤ (rem1 T f).uh ∧ (rem1 T f).uh ≤ T.uh ∧ T.th - 1 ≤ (rem1 T f).th ∧ (rem1 T f).th ≤ T.th := by
  unfold rem1
  split
  · exact ⟨rfl, rfl, by omega, by omega, by omega, by omega⟩
  · split
    · exact ⟨rfl, rfl, by dsimp only; omega, by dsimp only; omega, by dsimp only; omega, by dsimp only; omega⟩
    · exact ⟨rfl, rfl, by dsimp only; omega, by dsimp only; omega, by dsimp only; omega, by dsimp only; omega⟩
def remF (s : Tb × Int) (f : Flow) : Tb × Int := (rem1 s.1 f, s.2 + if (lookL s.1.m f).isSome then 1 else 0)
theorem remF_snoc {fs : List Flow} {k : Nat} {f : Flow} {s : Tb × Int} (h : fs[k]? = some f) : (fs.take (k + 1)).foldl remF s = remF ((fs.take k).foldl remF s) f := by
  obtain ⟨hk, rfl⟩ := List.getElem?_eq_some_iff.1 h
  rw [List.take_succ_eq_append_getElem hk, List.foldl_append]; rfl
theorem rem1_some {T : Tb} {f : Flow} {e : Ent} (h : lookL T.m f = some e) : rem1 T f = if e.trusted then ⟨delL T.m f, T.th - 1, T.tm, T.uh, T.um⟩ else ⟨delL T.m f, T.th, T.tm, T.uh - 1, T.um⟩ := by
  unfold rem1; rw [h]
theorem remF_some {T : Tb} {f : Flow} {e : Ent} {n : Int} (h : lookL T.m f = some e) : remF (T, n) f = (if e.trusted then ⟨delL T.m f, T.th - 1, T.tm, T.uh, T.um⟩ else ⟨delL T.m f, T.th, T.tm, T.uh - 1, T.um⟩, n + 1) := by
  unfold remF; rw [rem1_some h]; simp [h]
theorem remF_none {T : Tb} {f : Flow} {n : Int} (h : lookL T.m f = none) : remF (T, n) f = (T, n) := by
  unfold remF rem1; simp [h]
def touchT (T : Tb) (f : Flow) (flags now : Int) : Tb × Bool := match lookL T.m f with
  | none => (T, false)
  | some e => if goodTime now = false then (T, false) else
    if e.trusted = false ∧ Go.bits .and .i64 (if f.proto = 6 then flags else 0) 2 = 0 ∧ T.th < T.tm then (⟨putL T.m f ⟨e.flow, e.dip, e.epoch, true, if ¬ Go.bits .and .i64 (if f.proto = 6 then flags else 0) 5 = 0 then true else if ¬ Go.bits .and .i64 (if f.proto = 6 then flags else 0) 2 = 0 then false else e.closing, now⟩, T.th + 1, T.tm, T.uh - 1, T.um⟩, true)
    else (⟨putL T.m f ⟨e.flow, e.dip, e.epoch, e.trusted, if ¬ Go.bits .and .i64 (if f.proto = 6 then flags else 0) 5 = 0 then true else if ¬ Go.bits .and .i64 (if f.proto = 6 then flags else 0) 2 = 0 then false else e.closing, now⟩, T.th, T.tm, T.uh, T.um⟩, true)
theorem eqF_run_ (a b : Flow) (w : World) : (Op.equal 32 (encF a) (encF b)).run Try.prog w = .ok (decide (a = b)) w := by
  have h : eqS Try.prog 32 #[.int .i64 a.proto, .int .u32 a.src, .int .i64 a.sport, .int .u32 a.dst, .int .i64 a.dport] #[.int .i64 b.proto, .int .u32 b.src, .int .i64 b.sport, .int .u32 b.dst, .int .i64 b.dport] = some (a.proto == b.proto && (a.src == b.src && (a.sport == b.sport && (a.dst == b.dst && (a.dport == b.dport && true))))) := by kernel_rfl
  have h2 := (eqS_run (w := w) h).1
  have e : decide (a = b) = (a.proto == b.proto && (a.src == b.src && (a.sport == b.sport && (a.dst == b.dst && (a.dport == b.dport && true))))) := by
    rw [Bool.eq_iff_iff]; simp [flow_eq]
  rw [e]; exact h2
theorem keyF : KeyL Try.prog 32 encF :=
  .ask (d := (Try.prog.underlying 32).getD .bool) (by kernel_rfl) (fun a b => by kernel_rfl) eqF_run_ (fun b k w => by kernel_rfl) (fun k => by unfold encF; rw [Instr.sameBits]; simp [Instr.sameBits])
theorem cellsF_len (f : Flow) : (cellsF f).length = 5 := rfl
theorem cellsF_one (f : Flow) : (cellsF f).all Value.oneCell' = true := rfl
theorem err_eql (X : Operand) (c : Int) (ok : Bool) (h : decide (c = 0) = ok) (w : World) : Sem.run Try.prog (do eqGuard .eql 26 X (.const .nilIface) (errV 47 c) .nilIface; binOp .eql 26 (errV 47 c) .nilIface) w = .ok (.bool (ok)) w := by
  subst h
  unfold errV
  by_cases hc : c = 0
  · simp only [hc, if_true, decide_true]; cases X <;> kernel_rfl
  · simp only [hc, if_false, decide_false]; cases X <;> kernel_rfl
theorem err_neq (X : Operand) (c : Int) (ok : Bool) (h : decide (c = 0) = ok) (w : World) : Sem.run Try.prog (do eqGuard .neq 26 X (.const .nilIface) (errV 47 c) .nilIface; binOp .neq 26 (errV 47 c) .nilIface) w = .ok (.bool (!ok)) w := by
  subst h
  unfold errV
  by_cases hc : c = 0
  · simp only [hc, if_true, decide_true]; cases X <;> kernel_rfl
  · simp only [hc, if_false, decide_false]; cases X <;> kernel_rfl
theorem goodTime_ct (now : Int) (w : World) : Calls Try.prog 32 #[.int .i64 now] w fun e w' => e = .returned (.bool (goodTime now)) ∧ Fr w w' [] := by
  refine enterD (n := 9) Try.func32 rfl rfl (Nat.le_of_ble_eq_true rfl) ?_
  intro Q0 hN hret hret'
  have hC := Cx.start w
  refine WC.seq (fun K1 hK2 => ?_)
  refine WC.region ?_
  refine WL.runs 1 [(2, .bool false)] (fun _ => by kernel_rfl) ?_
  refine WL.done rfl ?_
  refine QX.then_normal (hK2 _ _ ?_)
  refine WC.seq (fun K3 hK4 => ?_)
  refine WC.region ?_
  refine WL.runs 3 [(5, .bool (decide (now ≥ 0))), (4, .bool (decide (now ≥ 0))), (3, .int .i64 now)] (fun _ => by kernel_rfl) ?_
  refine WL.test_at 5 (decide (now ≥ 0)) rfl (fun t5b => ?_) (fun t5b => ?_)
  · -- now ≥ 0: true
    have t5 : (0 : Int) ≤ now := by have q_ := of_decide_eq_true t5b; omega
    refine WL.runs 4 [(2, .bool (decide (now ≤ 1099511627776))), (8, .bool (decide (now ≤ 1099511627776))), (7, .bool (decide (now ≤ 1099511627776))), (6, .int .i64 now)] (fun _ => by kernel_rfl) ?_
    refine WL.done rfl ?_
    refine QX.then_normal (hK4 _ _ ?_)
    refine WC.ret ?_
    refine (hret _ _ _ rfl ?_).1
    clear hN hret hret' hK4 hK2
    exact ⟨by simp [shut, goodTime]; try grind, hC.fr⟩
  · -- now ≥ 0: false
    have t5 : now < 0 := by have q_ := of_decide_eq_false t5b; omega
    refine WL.runs 4 [(2, .bool false), (8, .bool false), (7, undef), (6, undef)] (fun _ => by kernel_rfl) ?_
    refine WL.done rfl ?_
    refine QX.then_normal (hK4 _ _ ?_)
    refine WC.ret ?_
    refine (hret _ _ _ rfl ?_).1
    clear hN hret hret' hK4 hK2
    exact ⟨by simp [shut, goodTime]; try grind, hC.fr⟩

theorem port_ct (n : Int) (w : World) : Calls Try.prog 44 #[.int .i64 n] w fun e w' => e = .returned (.bool (decide (0 ≤ n) && decide (n ≤ 65535))) ∧ Fr w w' [] := by
  refine enterD (n := 9) Try.func44 rfl rfl (Nat.le_of_ble_eq_true rfl) ?_
  intro Q0 hN hret hret'
  have hC := Cx.start w
  refine WC.seq (fun K1 hK2 => ?_)
  refine WC.region ?_
  refine WL.runs 1 [(2, .bool false)] (fun _ => by kernel_rfl) ?_
  refine WL.done rfl ?_
  refine QX.then_normal (hK2 _ _ ?_)
  refine WC.seq (fun K3 hK4 => ?_)
  refine WC.region ?_
  refine WL.runs 3 [(5, .bool (decide (n ≥ 0))), (4, .bool (decide (n ≥ 0))), (3, .int .i64 n)] (fun _ => by kernel_rfl) ?_
  refine WL.test_at 5 (decide (n ≥ 0)) rfl (fun t5b => ?_) (fun t5b => ?_)
  · -- n ≥ 0: true
    have t5 : (0 : Int) ≤ n := by have q_ := of_decide_eq_true t5b; omega
    refine WL.runs 4 [(2, .bool (decide (n ≤ 65535))), (8, .bool (decide (n ≤ 65535))), (7, .bool (decide (n ≤ 65535))), (6, .int .i64 n)] (fun _ => by kernel_rfl) ?_
    refine WL.done rfl ?_
    refine QX.then_normal (hK4 _ _ ?_)
    refine WC.ret ?_
    refine (hret _ _ _ rfl ?_).1
    clear hN hret hret' hK4 hK2
    exact ⟨by simp [shut]; try grind, hC.fr⟩
  · -- n ≥ 0: false
    have t5 : n < 0 := by have q_ := of_decide_eq_false t5b; omega
    refine WL.runs 4 [(2, .bool false), (8, .bool false), (7, undef), (6, undef)] (fun _ => by kernel_rfl) ?_
    refine WL.done rfl ?_
    refine QX.then_normal (hK4 _ _ ?_)
    refine WC.ret ?_
    refine (hret _ _ _ rfl ?_).1
    clear hN hret hret' hK4 hK2
    exact ⟨by simp [shut]; try grind, hC.fr⟩

theorem CheckF_ct (f : Flow) (w : World) : Calls Try.prog 31 #[.agg #[.int .i64 f.proto, .int .u32 f.src, .int .i64 f.sport, .int .u32 f.dst, .int .i64 f.dport]] w fun e w' => e = .returned (errV 47 (if goodF f then 0 else 9)) ∧ Fr w w' [] := by
  refine enterD (n := 27) Try.func31 rfl rfl (Nat.le_of_ble_eq_true rfl) ?_
  intro Q0 hN hret hret'
  have hC := Cx.start w
  refine WC.seq (fun K1 hK2 => ?_)
  refine WC.region ?_
  refine WL.newM hC (fun b => .pointer (some ⟨b, 0, none⟩)) (.cells #[.int .i64 f.proto, .int .u32 f.src, .int .i64 f.sport, .int .u32 f.dst, .int .i64 f.dport] 32) 1 (fun _ => by kernel_rfl) (fun g3 w4 hb7 hF5 hC6 => ?_)
  refine WL.runs 1 [(2, .nilIface)] (fun _ => by kernel_rfl) ?_
  refine WL.done rfl ?_
  refine QX.then_normal (hK2 _ _ ?_)
  refine WC.seq (fun K8 hK9 => ?_)
  refine WC.region ?_
  refine WL.runs 1 [(3, .func (.func 44) #[] #[])] (fun _ => by kernel_rfl) ?_
  refine WL.done rfl ?_
  refine QX.then_normal (hK9 _ _ ?_)
  refine WC.seq (fun K10 hK11 => ?_)
  refine WC.seq (fun K12 hK13 => ?_)
  refine WC.region ?_
  refine WL.runs 1 [(4, .pointer (some ⟨g3, 0, none⟩))] (fun _ => by kernel_rfl) ?_
  refine WL.load 3 (.pointer (some ⟨g3, 0, none⟩)) (.int .i64 f.proto) 5 (by kernel_rfl) (run_ld (hC6.get 0 rfl) rfl) ?_
  refine WL.runs 2 [(7, .bool (f.proto != 6)), (6, .bool (f.proto != 6))] (fun _ => by kernel_rfl) ?_
  refine WL.test_at 7 (f.proto != 6) rfl (fun t14b => ?_) (fun t14b => ?_)
  · -- f.proto ≠ 6: true
    have t14 : f.proto ≠ 6 := by simpa using t14b
    refine WL.runs 1 [(8, .pointer (some ⟨g3, 0, none⟩))] (fun _ => by kernel_rfl) ?_
    refine WL.load 3 (.pointer (some ⟨g3, 0, none⟩)) (.int .i64 f.proto) 9 (by kernel_rfl) (run_ld (hC6.get 0 rfl) rfl) ?_
    refine WL.runs 3 [(12, .bool (f.proto != 17)), (11, .bool (f.proto != 17)), (10, .bool (f.proto != 17))] (fun _ => by kernel_rfl) ?_
    refine WL.test_at 12 (f.proto != 17) rfl (fun t15b => ?_) (fun t15b => ?_)
    · -- f.proto ≠ 17: true
      have t15 : f.proto ≠ 17 := by simpa using t15b
      refine WL.runs 13 [(25, .bool true), (24, undef), (23, undef), (22, undef), (21, undef), (20, undef), (19, .bool true), (18, .bool true), (17, undef), (16, undef), (15, undef), (14, undef), (13, undef)] (fun _ => by kernel_rfl) ?_
      refine WL.done rfl ?_
      refine QX.then_normal (hK13 _ _ ?_)
      refine WC.cond_true rfl ?_
      refine WC.seq (fun K16 hK17 => ?_)
      refine WC.region ?_
      refine WL.runs 2 [(2, .iface 47 (.int .i64 9)), (26, .iface 47 (.int .i64 9))] (fun _ => by kernel_rfl) ?_
      refine WL.done rfl ?_
      refine QX.then_normal (hK17 _ _ ?_)
      refine WC.ret ?_
      refine QX.then_ret ?_
      refine (hret _ _ _ rfl ?_).1
      clear hN hret hret' hK17 hK13 hK11 hK9 hK2
      have hg_ : goodF f = false := by rw [goodF]; simp only [t14, t14b, t15, t15b]; (try simp)
      exact ⟨by rw [hg_]; rfl, hC6.fr⟩
    · -- f.proto ≠ 17: false
      have t15 : f.proto = 17 := by simpa using t15b
      refine WL.runs 2 [(14, .pointer (some ⟨g3, 2, none⟩)), (13, .func (.func 44) #[] #[])] (fun _ => by kernel_rfl) ?_
      refine WL.load 3 (.pointer (some ⟨g3, 2, none⟩)) (.int .i64 f.sport) 15 (by kernel_rfl) (run_ld (hC6.get 0 rfl) rfl) ?_
      refine WL.call rfl rfl rfl rfl rfl (by kernel_rfl) (port_ct f.sport w4) ?_
      rintro _ w19 ⟨rfl, hF18⟩
      refine ⟨_, rfl, ?_⟩
      have hC20 := hC6.call hF18
      refine WL.runs 3 [(19, .bool (!(decide (0 ≤ f.sport) && decide (f.sport ≤ 65535)))), (18, .bool (!(decide (0 ≤ f.sport) && decide (f.sport ≤ 65535)))), (17, .bool (!(decide (0 ≤ f.sport) && decide (f.sport ≤ 65535))))] (fun _ => by kernel_rfl) ?_
      refine WL.test_at 19 (!(decide (0 ≤ f.sport) && decide (f.sport ≤ 65535))) rfl (fun t21b => ?_) (fun t21b => ?_)
      · -- (!(decide (0 ≤ f.sport) && decide (f.sport ≤ 65535))) = true: true
        have t21 : (decide (0 ≤ f.sport) && decide (f.sport ≤ 65535)) = false := by first | (simpa only [Bool.not_eq_true', Bool.not_eq_false'] using t21b) | simpa using t21b
        refine WL.runs 6 [(25, .bool true), (24, undef), (23, undef), (22, undef), (21, undef), (20, undef)] (fun _ => by kernel_rfl) ?_
        refine WL.done rfl ?_
        refine QX.then_normal (hK13 _ _ ?_)
        refine WC.cond_true rfl ?_
        refine WC.seq (fun K22 hK23 => ?_)
        refine WC.region ?_
        refine WL.runs 2 [(2, .iface 47 (.int .i64 9)), (26, .iface 47 (.int .i64 9))] (fun _ => by kernel_rfl) ?_
        refine WL.done rfl ?_
        refine QX.then_normal (hK23 _ _ ?_)
        refine WC.ret ?_
        refine QX.then_ret ?_
        refine (hret _ _ _ rfl ?_).1
        clear hN hret hret' hK23 hK13 hK11 hK9 hK2
        have hg_ : goodF f = false := by rw [goodF]; simp only [t14, t14b, t15, t15b, t21, t21b]; (try simp)
        exact ⟨by rw [hg_]; rfl, hC20.fr⟩
      · -- (!(decide (0 ≤ f.sport) && decide (f.sport ≤ 65535))) = true: false
        have t21 : (decide (0 ≤ f.sport) && decide (f.sport ≤ 65535)) = true := by first | (simpa only [Bool.not_eq_true', Bool.not_eq_false'] using t21b) | simpa using t21b
        refine WL.runs 2 [(21, .pointer (some ⟨g3, 4, none⟩)), (20, .func (.func 44) #[] #[])] (fun _ => by kernel_rfl) ?_
        refine WL.load 3 (.pointer (some ⟨g3, 4, none⟩)) (.int .i64 f.dport) 22 (by kernel_rfl) (run_ld (hC20.get 0 rfl) rfl) ?_
        refine WL.call rfl rfl rfl rfl rfl (by kernel_rfl) (port_ct f.dport w19) ?_
        rintro _ w25 ⟨rfl, hF24⟩
        refine ⟨_, rfl, ?_⟩
        have hC26 := hC20.call hF24
        refine WL.runs 2 [(25, .bool (!(decide (0 ≤ f.dport) && decide (f.dport ≤ 65535)))), (24, .bool (!(decide (0 ≤ f.dport) && decide (f.dport ≤ 65535))))] (fun _ => by kernel_rfl) ?_
        refine WL.done rfl ?_
        refine QX.then_normal (hK13 _ _ ?_)
        refine WC.test_at 25 (!(decide (0 ≤ f.dport) && decide (f.dport ≤ 65535))) rfl (fun t27b => ?_) (fun t27b => ?_)
        · -- (!(decide (0 ≤ f.dport) && decide (f.dport ≤ 65535))) = true: true
          have t27 : (decide (0 ≤ f.dport) && decide (f.dport ≤ 65535)) = false := by first | (simpa only [Bool.not_eq_true', Bool.not_eq_false'] using t27b) | simpa using t27b
          refine WC.cond_true rfl ?_
          refine WC.seq (fun K28 hK29 => ?_)
          refine WC.region ?_
          refine WL.runs 2 [(2, .iface 47 (.int .i64 9)), (26, .iface 47 (.int .i64 9))] (fun _ => by kernel_rfl) ?_
          refine WL.done rfl ?_
          refine QX.then_normal (hK29 _ _ ?_)
          refine WC.ret ?_
          refine QX.then_ret ?_
          refine (hret _ _ _ rfl ?_).1
          clear hN hret hret' hK29 hK13 hK11 hK9 hK2
          have hg_ : goodF f = false := by rw [goodF]; simp only [t14, t14b, t15, t15b, t21, t21b, t27, t27b]; (try simp)
          exact ⟨by rw [hg_]; rfl, hC26.fr⟩
        · -- (!(decide (0 ≤ f.dport) && decide (f.dport ≤ 65535))) = true: false
          have t27 : (decide (0 ≤ f.dport) && decide (f.dport ≤ 65535)) = true := by first | (simpa only [Bool.not_eq_true', Bool.not_eq_false'] using t27b) | simpa using t27b
          refine WC.cond_false rfl ?_
          refine WC.skip ?_
          refine QX.then_normal (hK11 _ _ ?_)
          refine WC.seq (fun K30 hK31 => ?_)
          refine WC.region ?_
          refine WL.runs 1 [(2, .nilIface)] (fun _ => by kernel_rfl) ?_
          refine WL.done rfl ?_
          refine QX.then_normal (hK31 _ _ ?_)
          refine WC.ret ?_
          refine (hret _ _ _ rfl ?_).1
          clear hN hret hret' hK31 hK13 hK11 hK9 hK2
          have hg_ : goodF f = true := by rw [goodF]; simp only [t14, t14b, t15, t15b, t21, t21b, t27, t27b]; (try simp)
          exact ⟨by rw [hg_]; rfl, hC26.fr⟩
  · -- f.proto ≠ 6: false
    have t14 : f.proto = 6 := by simpa using t14b
    refine WL.runs 7 [(14, .pointer (some ⟨g3, 2, none⟩)), (13, .func (.func 44) #[] #[]), (12, .bool false), (11, .bool false), (10, undef), (9, undef), (8, undef)] (fun _ => by kernel_rfl) ?_
    refine WL.load 3 (.pointer (some ⟨g3, 2, none⟩)) (.int .i64 f.sport) 15 (by kernel_rfl) (run_ld (hC6.get 0 rfl) rfl) ?_
    refine WL.call rfl rfl rfl rfl rfl (by kernel_rfl) (port_ct f.sport w4) ?_
    rintro _ w33 ⟨rfl, hF32⟩
    refine ⟨_, rfl, ?_⟩
    have hC34 := hC6.call hF32
    refine WL.runs 3 [(19, .bool (!(decide (0 ≤ f.sport) && decide (f.sport ≤ 65535)))), (18, .bool (!(decide (0 ≤ f.sport) && decide (f.sport ≤ 65535)))), (17, .bool (!(decide (0 ≤ f.sport) && decide (f.sport ≤ 65535))))] (fun _ => by kernel_rfl) ?_
    refine WL.test_at 19 (!(decide (0 ≤ f.sport) && decide (f.sport ≤ 65535))) rfl (fun t35b => ?_) (fun t35b => ?_)
    · -- (!(decide (0 ≤ f.sport) && decide (f.sport ≤ 65535))) = true: true
      have t35 : (decide (0 ≤ f.sport) && decide (f.sport ≤ 65535)) = false := by first | (simpa only [Bool.not_eq_true', Bool.not_eq_false'] using t35b) | simpa using t35b
      refine WL.runs 6 [(25, .bool true), (24, undef), (23, undef), (22, undef), (21, undef), (20, undef)] (fun _ => by kernel_rfl) ?_
      refine WL.done rfl ?_
      refine QX.then_normal (hK13 _ _ ?_)
      refine WC.cond_true rfl ?_
      refine WC.seq (fun K36 hK37 => ?_)
      refine WC.region ?_
      refine WL.runs 2 [(2, .iface 47 (.int .i64 9)), (26, .iface 47 (.int .i64 9))] (fun _ => by kernel_rfl) ?_
      refine WL.done rfl ?_
      refine QX.then_normal (hK37 _ _ ?_)
      refine WC.ret ?_
      refine QX.then_ret ?_
      refine (hret _ _ _ rfl ?_).1
      clear hN hret hret' hK37 hK13 hK11 hK9 hK2
      have hg_ : goodF f = false := by rw [goodF]; simp only [t14, t14b, t35, t35b]; (try simp)
      exact ⟨by rw [hg_]; rfl, hC34.fr⟩
    · -- (!(decide (0 ≤ f.sport) && decide (f.sport ≤ 65535))) = true: false
      have t35 : (decide (0 ≤ f.sport) && decide (f.sport ≤ 65535)) = true := by first | (simpa only [Bool.not_eq_true', Bool.not_eq_false'] using t35b) | simpa using t35b
      refine WL.runs 2 [(21, .pointer (some ⟨g3, 4, none⟩)), (20, .func (.func 44) #[] #[])] (fun _ => by kernel_rfl) ?_
      refine WL.load 3 (.pointer (some ⟨g3, 4, none⟩)) (.int .i64 f.dport) 22 (by kernel_rfl) (run_ld (hC34.get 0 rfl) rfl) ?_
      refine WL.call rfl rfl rfl rfl rfl (by kernel_rfl) (port_ct f.dport w33) ?_
      rintro _ w39 ⟨rfl, hF38⟩
      refine ⟨_, rfl, ?_⟩
      have hC40 := hC34.call hF38
      refine WL.runs 2 [(25, .bool (!(decide (0 ≤ f.dport) && decide (f.dport ≤ 65535)))), (24, .bool (!(decide (0 ≤ f.dport) && decide (f.dport ≤ 65535))))] (fun _ => by kernel_rfl) ?_
      refine WL.done rfl ?_
      refine QX.then_normal (hK13 _ _ ?_)
      refine WC.test_at 25 (!(decide (0 ≤ f.dport) && decide (f.dport ≤ 65535))) rfl (fun t41b => ?_) (fun t41b => ?_)
      · -- (!(decide (0 ≤ f.dport) && decide (f.dport ≤ 65535))) = true: true
        have t41 : (decide (0 ≤ f.dport) && decide (f.dport ≤ 65535)) = false := by first | (simpa only [Bool.not_eq_true', Bool.not_eq_false'] using t41b) | simpa using t41b
        refine WC.cond_true rfl ?_
        refine WC.seq (fun K42 hK43 => ?_)
        refine WC.region ?_
        refine WL.runs 2 [(2, .iface 47 (.int .i64 9)), (26, .iface 47 (.int .i64 9))] (fun _ => by kernel_rfl) ?_
        refine WL.done rfl ?_
        refine QX.then_normal (hK43 _ _ ?_)
        refine WC.ret ?_
        refine QX.then_ret ?_
        refine (hret _ _ _ rfl ?_).1
        clear hN hret hret' hK43 hK13 hK11 hK9 hK2
        have hg_ : goodF f = false := by rw [goodF]; simp only [t14, t14b, t35, t35b, t41, t41b]; (try simp)
        exact ⟨by rw [hg_]; rfl, hC40.fr⟩
      · -- (!(decide (0 ≤ f.dport) && decide (f.dport ≤ 65535))) = true: false
        have t41 : (decide (0 ≤ f.dport) && decide (f.dport ≤ 65535)) = true := by first | (simpa only [Bool.not_eq_true', Bool.not_eq_false'] using t41b) | simpa using t41b
        refine WC.cond_false rfl ?_
        refine WC.skip ?_
        refine QX.then_normal (hK11 _ _ ?_)
        refine WC.seq (fun K44 hK45 => ?_)
        refine WC.region ?_
        refine WL.runs 1 [(2, .nilIface)] (fun _ => by kernel_rfl) ?_
        refine WL.done rfl ?_
        refine QX.then_normal (hK45 _ _ ?_)
        refine WC.ret ?_
        refine (hret _ _ _ rfl ?_).1
        clear hN hret hret' hK45 hK13 hK11 hK9 hK2
        have hg_ : goodF f = true := by rw [goodF]; simp only [t14, t14b, t35, t35b, t41, t41b]; (try simp)
        exact ⟨by rw [hg_]; rfl, hC40.fr⟩

theorem lessF_ct (a b : Flow) (w : World) : Calls Try.prog 38 #[.agg #[.int .i64 a.proto, .int .u32 a.src, .int .i64 a.sport, .int .u32 a.dst, .int .i64 a.dport], .agg #[.int .i64 b.proto, .int .u32 b.src, .int .i64 b.sport, .int .u32 b.dst, .int .i64 b.dport]] w fun e w' => e = .returned (.bool (lessF a b)) ∧ Fr w w' [] := by
  refine enterD (n := 33) Try.func38 rfl rfl (Nat.le_of_ble_eq_true rfl) ?_
  intro Q0 hN hret hret'
  have hC := Cx.start w
  refine WC.seq (fun K1 hK2 => ?_)
  refine WC.region ?_
  refine WL.newM hC (fun b => .pointer (some ⟨b, 0, none⟩)) (.cells #[.int .i64 a.proto, .int .u32 a.src, .int .i64 a.sport, .int .u32 a.dst, .int .i64 a.dport] 32) 2 (fun _ => by kernel_rfl) (fun g3 w4 hb7 hF5 hC6 => ?_)
  refine WL.newM hC6 (fun b => .pointer (some ⟨b, 0, none⟩)) (.cells #[.int .i64 b.proto, .int .u32 b.src, .int .i64 b.sport, .int .u32 b.dst, .int .i64 b.dport] 32) 3 (fun _ => by kernel_rfl) (fun g8 w9 hb12 hF10 hC11 => ?_)
  refine WL.runs 1 [(4, .bool false)] (fun _ => by kernel_rfl) ?_
  refine WL.done rfl ?_
  refine QX.then_normal (hK2 _ _ ?_)
  refine WC.seq (fun K13 hK14 => ?_)
  refine WC.drawC hC11 [] (by kernel_rfl) (fun w15 hF16 hC17 hS18 => ?_)
  refine WD.pure (NoPanic.then hN) 0 5 (.pointer (some ⟨g3, 0, none⟩)) (by kernel_rfl) (fun _ => by kernel_rfl) hS18 ?_
  refine WD.pure (NoPanic.then hN) 2 7 (.pointer (some ⟨g8, 0, none⟩)) (by kernel_rfl) (fun _ => by kernel_rfl) hS18 ?_
  refine WD.pure (NoPanic.then hN) 5 10 (.pointer (some ⟨g3, 1, none⟩)) (by kernel_rfl) (fun _ => by kernel_rfl) hS18 ?_
  refine WD.pure (NoPanic.then hN) 7 12 (.pointer (some ⟨g8, 1, none⟩)) (by kernel_rfl) (fun _ => by kernel_rfl) hS18 ?_
  refine WD.pure (NoPanic.then hN) 10 15 (.pointer (some ⟨g3, 2, none⟩)) (by kernel_rfl) (fun _ => by kernel_rfl) hS18 ?_
  refine WD.pure (NoPanic.then hN) 12 17 (.pointer (some ⟨g8, 2, none⟩)) (by kernel_rfl) (fun _ => by kernel_rfl) hS18 ?_
  refine WD.pure (NoPanic.then hN) 15 20 (.pointer (some ⟨g3, 3, none⟩)) (by kernel_rfl) (fun _ => by kernel_rfl) hS18 ?_
  refine WD.pure (NoPanic.then hN) 17 22 (.pointer (some ⟨g8, 3, none⟩)) (by kernel_rfl) (fun _ => by kernel_rfl) hS18 ?_
  refine WD.pure (NoPanic.then hN) 20 25 (.pointer (some ⟨g3, 4, none⟩)) (by kernel_rfl) (fun _ => by kernel_rfl) hS18 ?_
  refine WD.pure (NoPanic.then hN) 22 27 (.pointer (some ⟨g8, 4, none⟩)) (by kernel_rfl) (fun _ => by kernel_rfl) hS18 ?_
  refine WD.load (NoPanic.then hN) 1 3 (.pointer (some ⟨g3, 0, none⟩)) (.int .i64 a.proto) 6 (by kernel_rfl) (by kernel_rfl) (fun _ hS_ => run_ld (Fr.has hS_ (hC17.get 0 rfl) (by simp)) rfl) hS18 ?_
  refine WD.load (NoPanic.then hN) 3 3 (.pointer (some ⟨g8, 0, none⟩)) (.int .i64 b.proto) 8 (by kernel_rfl) (by kernel_rfl) (fun _ hS_ => run_ld (Fr.has hS_ (hC17.get 1 rfl) (by simp)) rfl) hS18 ?_
  refine WD.load (NoPanic.then hN) 6 30 (.pointer (some ⟨g3, 1, none⟩)) (.int .u32 a.src) 11 (by kernel_rfl) (by kernel_rfl) (fun _ hS_ => run_ld (Fr.has hS_ (hC17.get 0 rfl) (by simp)) rfl) hS18 ?_
  refine WD.load (NoPanic.then hN) 8 30 (.pointer (some ⟨g8, 1, none⟩)) (.int .u32 b.src) 13 (by kernel_rfl) (by kernel_rfl) (fun _ hS_ => run_ld (Fr.has hS_ (hC17.get 1 rfl) (by simp)) rfl) hS18 ?_
  refine WD.load (NoPanic.then hN) 11 3 (.pointer (some ⟨g3, 2, none⟩)) (.int .i64 a.sport) 16 (by kernel_rfl) (by kernel_rfl) (fun _ hS_ => run_ld (Fr.has hS_ (hC17.get 0 rfl) (by simp)) rfl) hS18 ?_
  refine WD.load (NoPanic.then hN) 13 3 (.pointer (some ⟨g8, 2, none⟩)) (.int .i64 b.sport) 18 (by kernel_rfl) (by kernel_rfl) (fun _ hS_ => run_ld (Fr.has hS_ (hC17.get 1 rfl) (by simp)) rfl) hS18 ?_
  refine WD.load (NoPanic.then hN) 16 30 (.pointer (some ⟨g3, 3, none⟩)) (.int .u32 a.dst) 21 (by kernel_rfl) (by kernel_rfl) (fun _ hS_ => run_ld (Fr.has hS_ (hC17.get 0 rfl) (by simp)) rfl) hS18 ?_
  refine WD.load (NoPanic.then hN) 18 30 (.pointer (some ⟨g8, 3, none⟩)) (.int .u32 b.dst) 23 (by kernel_rfl) (by kernel_rfl) (fun _ hS_ => run_ld (Fr.has hS_ (hC17.get 1 rfl) (by simp)) rfl) hS18 ?_
  refine WD.load (NoPanic.then hN) 21 3 (.pointer (some ⟨g3, 4, none⟩)) (.int .i64 a.dport) 26 (by kernel_rfl) (by kernel_rfl) (fun _ hS_ => run_ld (Fr.has hS_ (hC17.get 0 rfl) (by simp)) rfl) hS18 ?_
  refine WD.load (NoPanic.then hN) 23 3 (.pointer (some ⟨g8, 4, none⟩)) (.int .i64 b.dport) 28 (by kernel_rfl) (by kernel_rfl) (fun _ hS_ => run_ld (Fr.has hS_ (hC17.get 1 rfl) (by simp)) rfl) hS18 ?_
  refine WD.call 4 (by kernel_rfl) rfl rfl rfl rfl rfl (by kernel_rfl) (compare_int a.proto b.proto w15) ?_
  rintro _ w20 ⟨rfl, hF19⟩
  have hS22 := hS18.trans hF19 (by simp)
  refine ⟨_, rfl, hS22, ?_⟩
  have hC21 := hC17.call hF19
  refine WD.call 9 (by kernel_rfl) rfl rfl rfl rfl rfl (by kernel_rfl) (compare_api_Addr a.src b.src w20) ?_
  rintro _ w24 ⟨rfl, hF23⟩
  have hS26 := hS22.trans hF23 (by simp)
  refine ⟨_, rfl, hS26, ?_⟩
  have hC25 := hC21.call hF23
  refine WD.call 14 (by kernel_rfl) rfl rfl rfl rfl rfl (by kernel_rfl) (compare_int a.sport b.sport w24) ?_
  rintro _ w28 ⟨rfl, hF27⟩
  have hS30 := hS26.trans hF27 (by simp)
  refine ⟨_, rfl, hS30, ?_⟩
  have hC29 := hC25.call hF27
  refine WD.call 19 (by kernel_rfl) rfl rfl rfl rfl rfl (by kernel_rfl) (compare_api_Addr a.dst b.dst w28) ?_
  rintro _ w32 ⟨rfl, hF31⟩
  have hS34 := hS30.trans hF31 (by simp)
  refine ⟨_, rfl, hS34, ?_⟩
  have hC33 := hC29.call hF31
  refine WD.call 24 (by kernel_rfl) rfl rfl rfl rfl rfl (by kernel_rfl) (compare_int a.dport b.dport w32) ?_
  rintro _ w36 ⟨rfl, hF35⟩
  have hS38 := hS34.trans hF35 (by simp)
  refine ⟨_, rfl, hS38, ?_⟩
  have hC37 := hC33.call hF35
  refine WD.new 25 (fun b => .slice (some ⟨b, 0, none⟩) 5 5) (.cells #[.int .i64 (cmpI a.proto b.proto), .int .i64 (cmpI a.src b.src), .int .i64 (cmpI a.sport b.sport), .int .i64 (cmpI a.dst b.dst), .int .i64 (cmpI a.dport b.dport)] 3) (by kernel_rfl) rfl rfl rfl rfl rfl (fun _ => by kernel_rfl) (fun g39 w40 hb43 hl44 hF41 ho45 => ?_)
  have hC42 := hC37.callB hF41 hb43 ho45
  have hS46 := hS38.trans hF41 (by simp)
  refine ⟨hS46, ?_⟩
  refine WD.call 26 (by kernel_rfl) rfl rfl rfl rfl rfl (by kernel_rfl) (or_int (some ⟨g39, 0, none⟩) 5 [cmpI a.proto b.proto, cmpI a.src b.src, cmpI a.sport b.sport, cmpI a.dst b.dst, cmpI a.dport b.dport] w40 (Rd.blk (hC42.get 2 rfl) (encI_len _) rfl) (by simp)) ?_
  rintro _ w48 ⟨rfl, hF47⟩
  have hS50 := hS46.trans hF47 (by simp)
  refine ⟨_, rfl, hS50, ?_⟩
  have hC49 := hC42.call hF47
  refine WD.pure (NoPanic.then hN) 27 32 (.bool (decide ((orI [cmpI a.proto b.proto, cmpI a.src b.src, cmpI a.sport b.sport, cmpI a.dst b.dst, cmpI a.dport b.dport]) < 0))) (by kernel_rfl) (fun _ => by kernel_rfl) hS50 ?_
  refine WD.pure (NoPanic.then hN) 28 4 (.bool (decide ((orI [cmpI a.proto b.proto, cmpI a.src b.src, cmpI a.sport b.sport, cmpI a.dst b.dst, cmpI a.dport b.dport]) < 0))) (by kernel_rfl) (fun _ => by kernel_rfl) hS50 ?_
  refine WD.done (by kernel_rfl) ?_
  refine QX.then_normal (hK14 _ _ ?_)
  refine WC.ret ?_
  refine (hret _ _ _ rfl ?_).1
  clear hN hret hret' hK14 hK2
  exact ⟨by simp [shut, lessF], hC49.fr⟩

theorem room_ct (p off : Nat) (x y : Int) (w : World) (h1 : w.cell? ⟨p, off, none⟩ = some (.int .i64 x)) (h2 : w.cell? ⟨p, off + 1, none⟩ = some (.int .i64 y)) : Calls Try.prog 33 #[.pointer (some ⟨p, off, none⟩)] w fun e w' => e = .returned (.bool (decide (x < y))) ∧ Fr w w' [] := by
  refine enterD (n := 12) Try.func33 rfl rfl (Nat.le_of_ble_eq_true rfl) ?_
  intro Q0 hN hret hret'
  have hC := Cx.start w
  refine WC.seq (fun K1 hK2 => ?_)
  refine WC.region ?_
  refine WL.runs 1 [(2, .bool false)] (fun _ => by kernel_rfl) ?_
  refine WL.done rfl ?_
  refine QX.then_normal (hK2 _ _ ?_)
  refine WC.seq (fun K3 hK4 => ?_)
  refine WC.drawC hC [] (by kernel_rfl) (fun w5 hF6 hC7 hS8 => ?_)
  refine WD.pure (NoPanic.then hN) 0 3 (.pointer (some ⟨p, off, none⟩)) (by kernel_rfl) (fun _ => by kernel_rfl) hS8 ?_
  refine WD.pure (NoPanic.then hN) 1 4 (.pointer (some ⟨p, off, none⟩)) (by kernel_rfl) (fun _ => by kernel_rfl) hS8 ?_
  refine WD.pure (NoPanic.then hN) 2 5 (.pointer (some ⟨p, off, none⟩)) (by kernel_rfl) (fun _ => by kernel_rfl) hS8 ?_
  refine WD.pure (NoPanic.then hN) 4 7 (.pointer (some ⟨p, off, none⟩)) (by kernel_rfl) (fun _ => by kernel_rfl) hS8 ?_
  refine WD.pure (NoPanic.then hN) 5 8 (.pointer (some ⟨p, off, none⟩)) (by kernel_rfl) (fun _ => by kernel_rfl) hS8 ?_
  refine WD.pure (NoPanic.then hN) 6 9 (.pointer (some ⟨p, off + 1, none⟩)) (by kernel_rfl) (fun _ => by kernel_rfl) hS8 ?_
  refine WD.load (NoPanic.then hN) 3 3 (.pointer (some ⟨p, off, none⟩)) (.int .i64 x) 6 (by kernel_rfl) (by kernel_rfl) (fun _ hS_ => run_load1 rfl (Fr.cell hS_ (hC7.fr.cell (h1) (by simp)) (by simp))) hS8 ?_
  refine WD.load (NoPanic.then hN) 7 3 (.pointer (some ⟨p, off + 1, none⟩)) (.int .i64 y) 10 (by kernel_rfl) (by kernel_rfl) (fun _ hS_ => run_load1 rfl (Fr.cell hS_ (hC7.fr.cell (h2) (by simp)) (by simp))) hS8 ?_
  refine WD.pure (NoPanic.then hN) 8 11 (.bool (decide (x < y))) (by kernel_rfl) (fun _ => by kernel_rfl) hS8 ?_
  refine WD.pure (NoPanic.then hN) 9 2 (.bool (decide (x < y))) (by kernel_rfl) (fun _ => by kernel_rfl) hS8 ?_
  refine WD.done (by kernel_rfl) ?_
  refine QX.then_normal (hK4 _ _ ?_)
  refine WC.ret ?_
  refine (hret _ _ _ rfl ?_).1
  clear hN hret hret' hK4 hK2
  exact ⟨rfl, hC7.fr⟩

theorem of_t (p : Nat) (x : Ent) (w : World) : Calls Try.prog 43 #[.pointer (some ⟨p, 0, none⟩), .agg #[.int .i64 x.flow.proto, .int .u32 x.flow.src, .int .i64 x.flow.sport, .int .u32 x.flow.dst, .int .i64 x.flow.dport, .int .u32 x.dip, .int .i64 x.epoch, .bool true, .bool x.closing, .int .i64 x.last]] w fun e w' => e = .returned (.pointer (some ⟨p, 1, none⟩)) ∧ Fr w w' [] := by
  refine enterD (n := 13) Try.func43 rfl rfl (Nat.le_of_ble_eq_true rfl) ?_
  intro Q0 hN hret hret'
  have hC := Cx.start w
  refine WC.seq (fun K1 hK2 => ?_)
  refine WC.region ?_
  refine WL.newM hC (fun b => .pointer (some ⟨b, 0, none⟩)) (.cells #[.int .i64 x.flow.proto, .int .u32 x.flow.src, .int .i64 x.flow.sport, .int .u32 x.flow.dst, .int .i64 x.flow.dport, .int .u32 x.dip, .int .i64 x.epoch, .bool true, .bool x.closing, .int .i64 x.last] 34) 3 (fun _ => by kernel_rfl) (fun g3 w4 hb7 hF5 hC6 => ?_)
  refine WL.runs 1 [(4, .pointer none)] (fun _ => by kernel_rfl) ?_
  refine WL.done rfl ?_
  refine QX.then_normal (hK2 _ _ ?_)
  refine WC.seq (fun K8 hK9 => ?_)
  refine WC.seq (fun K10 hK11 => ?_)
  refine WC.region ?_
  refine WL.runs 1 [(5, .pointer (some ⟨g3, 7, none⟩))] (fun _ => by kernel_rfl) ?_
  refine WL.load 4 (.pointer (some ⟨g3, 7, none⟩)) (.bool true) 6 (by kernel_rfl) (run_ld (hC6.get 0 rfl) rfl) ?_
  refine WL.done rfl ?_
  refine QX.then_normal (hK11 _ _ ?_)
  refine WC.cond_true rfl ?_
  refine WC.seq (fun K12 hK13 => ?_)
  refine WC.region ?_
  refine WL.runs 4 [(4, .pointer (some ⟨p, 1, none⟩)), (9, .pointer (some ⟨p, 1, none⟩)), (8, .pointer (some ⟨p, 0, none⟩)), (7, .pointer (some ⟨p, 0, none⟩))] (fun _ => by kernel_rfl) ?_
  refine WL.done rfl ?_
  refine QX.then_normal (hK13 _ _ ?_)
  refine WC.ret ?_
  refine QX.then_ret ?_
  refine (hret _ _ _ rfl ?_).1
  clear hN hret hret' hK13 hK11 hK9 hK2
  exact ⟨rfl, hC6.fr⟩

theorem of_u (p : Nat) (x : Ent) (w : World) : Calls Try.prog 43 #[.pointer (some ⟨p, 0, none⟩), .agg #[.int .i64 x.flow.proto, .int .u32 x.flow.src, .int .i64 x.flow.sport, .int .u32 x.flow.dst, .int .i64 x.flow.dport, .int .u32 x.dip, .int .i64 x.epoch, .bool false, .bool x.closing, .int .i64 x.last]] w fun e w' => e = .returned (.pointer (some ⟨p, 3, none⟩)) ∧ Fr w w' [] := by
  refine enterD (n := 13) Try.func43 rfl rfl (Nat.le_of_ble_eq_true rfl) ?_
  intro Q0 hN hret hret'
  have hC := Cx.start w
  refine WC.seq (fun K1 hK2 => ?_)
  refine WC.region ?_
  refine WL.newM hC (fun b => .pointer (some ⟨b, 0, none⟩)) (.cells #[.int .i64 x.flow.proto, .int .u32 x.flow.src, .int .i64 x.flow.sport, .int .u32 x.flow.dst, .int .i64 x.flow.dport, .int .u32 x.dip, .int .i64 x.epoch, .bool false, .bool x.closing, .int .i64 x.last] 34) 3 (fun _ => by kernel_rfl) (fun g3 w4 hb7 hF5 hC6 => ?_)
  refine WL.runs 1 [(4, .pointer none)] (fun _ => by kernel_rfl) ?_
  refine WL.done rfl ?_
  refine QX.then_normal (hK2 _ _ ?_)
  refine WC.seq (fun K8 hK9 => ?_)
  refine WC.seq (fun K10 hK11 => ?_)
  refine WC.region ?_
  refine WL.runs 1 [(5, .pointer (some ⟨g3, 7, none⟩))] (fun _ => by kernel_rfl) ?_
  refine WL.load 4 (.pointer (some ⟨g3, 7, none⟩)) (.bool false) 6 (by kernel_rfl) (run_ld (hC6.get 0 rfl) rfl) ?_
  refine WL.done rfl ?_
  refine QX.then_normal (hK11 _ _ ?_)
  refine WC.cond_false rfl ?_
  refine WC.skip ?_
  refine QX.then_normal (hK9 _ _ ?_)
  refine WC.seq (fun K12 hK13 => ?_)
  refine WC.region ?_
  refine WL.runs 4 [(4, .pointer (some ⟨p, 3, none⟩)), (12, .pointer (some ⟨p, 3, none⟩)), (11, .pointer (some ⟨p, 0, none⟩)), (10, .pointer (some ⟨p, 0, none⟩))] (fun _ => by kernel_rfl) ?_
  refine WL.done rfl ?_
  refine QX.then_normal (hK13 _ _ ?_)
  refine WC.ret ?_
  refine (hret _ _ _ rfl ?_).1
  clear hN hret hret' hK13 hK11 hK9 hK2
  exact ⟨rfl, hC6.fr⟩

theorem example_ct (n : Int) (w : World) : Calls Try.prog 12 #[.int .i64 n] w fun e w' => e = .returned (.agg #[.int .i64 6, .int .u32 134744072, .int .i64 n, .int .u32 16843009, .int .i64 80]) ∧ Fr w w' [] := by
  refine enterD (n := 5) Try.func12 rfl rfl (Nat.le_of_ble_eq_true rfl) ?_
  intro Q0 hN hret hret'
  have hC := Cx.start w
  refine WC.seq (fun K1 hK2 => ?_)
  refine WC.region ?_
  refine WL.newM hC (fun b => .pointer (some ⟨b, 0, none⟩)) (.cells #[.int .i64 0, .int .u32 0, .int .i64 0, .int .u32 0, .int .i64 0] 32) 2 (fun _ => by kernel_rfl) (fun g3 w4 hb7 hF5 hC6 => ?_)
  refine WL.done rfl ?_
  refine QX.then_normal (hK2 _ _ ?_)
  refine WC.seq (fun K8 hK9 => ?_)
  refine WC.region ?_
  refine WL.runs 2 [(4, .agg #[.int .i64 6, .int .u32 134744072, .int .i64 n, .int .u32 16843009, .int .i64 80]), (3, .int .i64 n)] (fun _ => by kernel_rfl) ?_
  refine WL.storeM (c' := #[.int .i64 6, .int .u32 134744072, .int .i64 n, .int .u32 16843009, .int .i64 80]) hC6 0 32 g3 0 (.agg #[.int .i64 6, .int .u32 134744072, .int .i64 n, .int .u32 16843009, .int .i64 80]) (by kernel_rfl) rfl (by kernel_rfl) (fun w10 hF12 hC13 => ?_)
  refine WL.done rfl ?_
  refine QX.then_normal (hK9 _ _ ?_)
  refine WC.ret ?_
  refine (hret' _ _ (.agg #[.int .i64 6, .int .u32 134744072, .int .i64 n, .int .u32 16843009, .int .i64 80]) (fun a ha => ?_) ?_).1
  · exact res_run ha ((ResR.cell rfl (run_ld (hC13.get 0 rfl) rfl) ResR.nil)) rfl
  clear hN hret hret' hK9 hK2
  exact ⟨rfl, hC13.fr⟩

theorem Good1_ct (f : Flow) (w : World) : Calls Try.prog 14 #[.agg #[.int .i64 f.proto, .int .u32 f.src, .int .i64 f.sport, .int .u32 f.dst, .int .i64 f.dport]] w fun e w' => e = .returned (.bool (goodF f)) ∧ Fr w w' [] := by
  refine enterD (n := 31) Try.func14 rfl rfl (Nat.le_of_ble_eq_true rfl) ?_
  intro Q0 hN hret hret'
  have hC := Cx.start w
  refine WC.seq (fun K1 hK2 => ?_)
  refine WC.region ?_
  refine WL.newM hC (fun b => .pointer (some ⟨b, 0, none⟩)) (.cells #[.int .i64 f.proto, .int .u32 f.src, .int .i64 f.sport, .int .u32 f.dst, .int .i64 f.dport] 32) 1 (fun _ => by kernel_rfl) (fun g3 w4 hb7 hF5 hC6 => ?_)
  refine WL.runs 1 [(2, .bool false)] (fun _ => by kernel_rfl) ?_
  refine WL.done rfl ?_
  refine QX.then_normal (hK2 _ _ ?_)
  refine WC.seq (fun K8 hK9 => ?_)
  refine WC.region ?_
  refine WL.runs 1 [(3, .pointer (some ⟨g3, 0, none⟩))] (fun _ => by kernel_rfl) ?_
  refine WL.load 3 (.pointer (some ⟨g3, 0, none⟩)) (.int .i64 f.proto) 4 (by kernel_rfl) (run_ld (hC6.get 0 rfl) rfl) ?_
  refine WL.runs 2 [(6, .bool (f.proto == 6)), (5, .bool (f.proto == 6))] (fun _ => by kernel_rfl) ?_
  refine WL.test_at 6 (f.proto == 6) rfl (fun t10b => ?_) (fun t10b => ?_)
  · -- f.proto = 6: true
    have t10 : f.proto = 6 := by simpa using t10b
    refine WL.runs 6 [(12, .pointer (some ⟨g3, 2, none⟩)), (11, .bool true), (10, .bool true), (9, undef), (8, undef), (7, undef)] (fun _ => by kernel_rfl) ?_
    refine WL.load 3 (.pointer (some ⟨g3, 2, none⟩)) (.int .i64 f.sport) 13 (by kernel_rfl) (run_ld (hC6.get 0 rfl) rfl) ?_
    refine WL.runs 3 [(16, .bool (decide (f.sport ≥ 0))), (15, .bool (decide (f.sport ≥ 0))), (14, .bool (decide (f.sport ≥ 0)))] (fun _ => by kernel_rfl) ?_
    refine WL.test_at 16 (decide (f.sport ≥ 0)) rfl (fun t11b => ?_) (fun t11b => ?_)
    · -- f.sport ≥ 0: true
      have t11 : (0 : Int) ≤ f.sport := by have q_ := of_decide_eq_true t11b; omega
      refine WL.runs 1 [(17, .pointer (some ⟨g3, 2, none⟩))] (fun _ => by kernel_rfl) ?_
      refine WL.load 3 (.pointer (some ⟨g3, 2, none⟩)) (.int .i64 f.sport) 18 (by kernel_rfl) (run_ld (hC6.get 0 rfl) rfl) ?_
      refine WL.runs 3 [(21, .bool (decide (f.sport < 65536))), (20, .bool (decide (f.sport < 65536))), (19, .bool (decide (f.sport < 65536)))] (fun _ => by kernel_rfl) ?_
      refine WL.test_at 21 (decide (f.sport < 65536)) rfl (fun t12b => ?_) (fun t12b => ?_)
      · -- f.sport < 65536: true
        have t12 : f.sport < 65536 := by have q_ := of_decide_eq_true t12b; omega
        refine WL.runs 1 [(22, .pointer (some ⟨g3, 4, none⟩))] (fun _ => by kernel_rfl) ?_
        refine WL.load 3 (.pointer (some ⟨g3, 4, none⟩)) (.int .i64 f.dport) 23 (by kernel_rfl) (run_ld (hC6.get 0 rfl) rfl) ?_
        refine WL.runs 3 [(26, .bool (decide (f.dport ≥ 0))), (25, .bool (decide (f.dport ≥ 0))), (24, .bool (decide (f.dport ≥ 0)))] (fun _ => by kernel_rfl) ?_
        refine WL.test_at 26 (decide (f.dport ≥ 0)) rfl (fun t13b => ?_) (fun t13b => ?_)
        · -- f.dport ≥ 0: true
          have t13 : (0 : Int) ≤ f.dport := by have q_ := of_decide_eq_true t13b; omega
          refine WL.runs 1 [(27, .pointer (some ⟨g3, 4, none⟩))] (fun _ => by kernel_rfl) ?_
          refine WL.load 3 (.pointer (some ⟨g3, 4, none⟩)) (.int .i64 f.dport) 28 (by kernel_rfl) (run_ld (hC6.get 0 rfl) rfl) ?_
          refine WL.runs 3 [(2, .bool (decide (f.dport < 65536))), (30, .bool (decide (f.dport < 65536))), (29, .bool (decide (f.dport < 65536)))] (fun _ => by kernel_rfl) ?_
          refine WL.done rfl ?_
          refine QX.then_normal (hK9 _ _ ?_)
          refine WC.ret ?_
          refine (hret _ _ _ rfl ?_).1
          clear hN hret hret' hK9 hK2
          refine ⟨congrArg (fun b_ => Ending.returned (Value.bool b_)) (?_ : (decide (f.dport < 65536)) = goodF f), hC6.fr⟩
          rw [Bool.eq_iff_iff]; simp only [goodF, Bool.and_eq_true, Bool.or_eq_true, decide_eq_true_eq, beq_iff_eq, Bool.false_eq_true, false_iff, true_iff]; try omega
        · -- f.dport ≥ 0: false
          have t13 : f.dport < 0 := by have q_ := of_decide_eq_false t13b; omega
          refine WL.runs 5 [(2, .bool false), (30, .bool false), (29, undef), (28, undef), (27, undef)] (fun _ => by kernel_rfl) ?_
          refine WL.done rfl ?_
          refine QX.then_normal (hK9 _ _ ?_)
          refine WC.ret ?_
          refine (hret _ _ _ rfl ?_).1
          clear hN hret hret' hK9 hK2
          refine ⟨congrArg (fun b_ => Ending.returned (Value.bool b_)) (?_ : false = goodF f), hC6.fr⟩
          rw [Bool.eq_iff_iff]; simp only [goodF, Bool.and_eq_true, Bool.or_eq_true, decide_eq_true_eq, beq_iff_eq, Bool.false_eq_true, false_iff, true_iff]; try omega
      · -- f.sport < 65536: false
        have t12 : (65536 : Int) ≤ f.sport := by have q_ := of_decide_eq_false t12b; omega
        refine WL.runs 10 [(2, .bool false), (30, .bool false), (29, undef), (28, undef), (27, undef), (26, .bool false), (25, .bool false), (24, undef), (23, undef), (22, undef)] (fun _ => by kernel_rfl) ?_
        refine WL.done rfl ?_
        refine QX.then_normal (hK9 _ _ ?_)
        refine WC.ret ?_
        refine (hret _ _ _ rfl ?_).1
        clear hN hret hret' hK9 hK2
        refine ⟨congrArg (fun b_ => Ending.returned (Value.bool b_)) (?_ : false = goodF f), hC6.fr⟩
        rw [Bool.eq_iff_iff]; simp only [goodF, Bool.and_eq_true, Bool.or_eq_true, decide_eq_true_eq, beq_iff_eq, Bool.false_eq_true, false_iff, true_iff]; try omega
    · -- f.sport ≥ 0: false
      have t11 : f.sport < 0 := by have q_ := of_decide_eq_false t11b; omega
      refine WL.runs 15 [(2, .bool false), (30, .bool false), (29, undef), (28, undef), (27, undef), (26, .bool false), (25, .bool false), (24, undef), (23, undef), (22, undef), (21, .bool false), (20, .bool false), (19, undef), (18, undef), (17, undef)] (fun _ => by kernel_rfl) ?_
      refine WL.done rfl ?_
      refine QX.then_normal (hK9 _ _ ?_)
      refine WC.ret ?_
      refine (hret _ _ _ rfl ?_).1
      clear hN hret hret' hK9 hK2
      refine ⟨congrArg (fun b_ => Ending.returned (Value.bool b_)) (?_ : false = goodF f), hC6.fr⟩
      rw [Bool.eq_iff_iff]; simp only [goodF, Bool.and_eq_true, Bool.or_eq_true, decide_eq_true_eq, beq_iff_eq, Bool.false_eq_true, false_iff, true_iff]; try omega
  · -- f.proto = 6: false
    have t10 : ¬ (f.proto = 6) := by simpa using t10b
    refine WL.runs 1 [(7, .pointer (some ⟨g3, 0, none⟩))] (fun _ => by kernel_rfl) ?_
    refine WL.load 3 (.pointer (some ⟨g3, 0, none⟩)) (.int .i64 f.proto) 8 (by kernel_rfl) (run_ld (hC6.get 0 rfl) rfl) ?_
    refine WL.runs 3 [(11, .bool (f.proto == 17)), (10, .bool (f.proto == 17)), (9, .bool (f.proto == 17))] (fun _ => by kernel_rfl) ?_
    refine WL.test_at 11 (f.proto == 17) rfl (fun t14b => ?_) (fun t14b => ?_)
    · -- f.proto = 17: true
      have t14 : f.proto = 17 := by simpa using t14b
      refine WL.runs 1 [(12, .pointer (some ⟨g3, 2, none⟩))] (fun _ => by kernel_rfl) ?_
      refine WL.load 3 (.pointer (some ⟨g3, 2, none⟩)) (.int .i64 f.sport) 13 (by kernel_rfl) (run_ld (hC6.get 0 rfl) rfl) ?_
      refine WL.runs 3 [(16, .bool (decide (f.sport ≥ 0))), (15, .bool (decide (f.sport ≥ 0))), (14, .bool (decide (f.sport ≥ 0)))] (fun _ => by kernel_rfl) ?_
      refine WL.test_at 16 (decide (f.sport ≥ 0)) rfl (fun t15b => ?_) (fun t15b => ?_)
      · -- f.sport ≥ 0: true
        have t15 : (0 : Int) ≤ f.sport := by have q_ := of_decide_eq_true t15b; omega
        refine WL.runs 1 [(17, .pointer (some ⟨g3, 2, none⟩))] (fun _ => by kernel_rfl) ?_
        refine WL.load 3 (.pointer (some ⟨g3, 2, none⟩)) (.int .i64 f.sport) 18 (by kernel_rfl) (run_ld (hC6.get 0 rfl) rfl) ?_
        refine WL.runs 3 [(21, .bool (decide (f.sport < 65536))), (20, .bool (decide (f.sport < 65536))), (19, .bool (decide (f.sport < 65536)))] (fun _ => by kernel_rfl) ?_
        refine WL.test_at 21 (decide (f.sport < 65536)) rfl (fun t16b => ?_) (fun t16b => ?_)
        · -- f.sport < 65536: true
          have t16 : f.sport < 65536 := by have q_ := of_decide_eq_true t16b; omega
          refine WL.runs 1 [(22, .pointer (some ⟨g3, 4, none⟩))] (fun _ => by kernel_rfl) ?_
          refine WL.load 3 (.pointer (some ⟨g3, 4, none⟩)) (.int .i64 f.dport) 23 (by kernel_rfl) (run_ld (hC6.get 0 rfl) rfl) ?_
          refine WL.runs 3 [(26, .bool (decide (f.dport ≥ 0))), (25, .bool (decide (f.dport ≥ 0))), (24, .bool (decide (f.dport ≥ 0)))] (fun _ => by kernel_rfl) ?_
          refine WL.test_at 26 (decide (f.dport ≥ 0)) rfl (fun t17b => ?_) (fun t17b => ?_)
          · -- f.dport ≥ 0: true
            have t17 : (0 : Int) ≤ f.dport := by have q_ := of_decide_eq_true t17b; omega
            refine WL.runs 1 [(27, .pointer (some ⟨g3, 4, none⟩))] (fun _ => by kernel_rfl) ?_
            refine WL.load 3 (.pointer (some ⟨g3, 4, none⟩)) (.int .i64 f.dport) 28 (by kernel_rfl) (run_ld (hC6.get 0 rfl) rfl) ?_
            refine WL.runs 3 [(2, .bool (decide (f.dport < 65536))), (30, .bool (decide (f.dport < 65536))), (29, .bool (decide (f.dport < 65536)))] (fun _ => by kernel_rfl) ?_
            refine WL.done rfl ?_
            refine QX.then_normal (hK9 _ _ ?_)
            refine WC.ret ?_
            refine (hret _ _ _ rfl ?_).1
            clear hN hret hret' hK9 hK2
            refine ⟨congrArg (fun b_ => Ending.returned (Value.bool b_)) (?_ : (decide (f.dport < 65536)) = goodF f), hC6.fr⟩
            rw [Bool.eq_iff_iff]; simp only [goodF, Bool.and_eq_true, Bool.or_eq_true, decide_eq_true_eq, beq_iff_eq, Bool.false_eq_true, false_iff, true_iff]; try omega
          · -- f.dport ≥ 0: false
            have t17 : f.dport < 0 := by have q_ := of_decide_eq_false t17b; omega
            refine WL.runs 5 [(2, .bool false), (30, .bool false), (29, undef), (28, undef), (27, undef)] (fun _ => by kernel_rfl) ?_
            refine WL.done rfl ?_
            refine QX.then_normal (hK9 _ _ ?_)
            refine WC.ret ?_
            refine (hret _ _ _ rfl ?_).1
            clear hN hret hret' hK9 hK2
            refine ⟨congrArg (fun b_ => Ending.returned (Value.bool b_)) (?_ : false = goodF f), hC6.fr⟩
            rw [Bool.eq_iff_iff]; simp only [goodF, Bool.and_eq_true, Bool.or_eq_true, decide_eq_true_eq, beq_iff_eq, Bool.false_eq_true, false_iff, true_iff]; try omega
        · -- f.sport < 65536: false
          have t16 : (65536 : Int) ≤ f.sport := by have q_ := of_decide_eq_false t16b; omega
          refine WL.runs 10 [(2, .bool false), (30, .bool false), (29, undef), (28, undef), (27, undef), (26, .bool false), (25, .bool false), (24, undef), (23, undef), (22, undef)] (fun _ => by kernel_rfl) ?_
          refine WL.done rfl ?_
          refine QX.then_normal (hK9 _ _ ?_)
          refine WC.ret ?_
          refine (hret _ _ _ rfl ?_).1
          clear hN hret hret' hK9 hK2
          refine ⟨congrArg (fun b_ => Ending.returned (Value.bool b_)) (?_ : false = goodF f), hC6.fr⟩
          rw [Bool.eq_iff_iff]; simp only [goodF, Bool.and_eq_true, Bool.or_eq_true, decide_eq_true_eq, beq_iff_eq, Bool.false_eq_true, false_iff, true_iff]; try omega
      · -- f.sport ≥ 0: false
        have t15 : f.sport < 0 := by have q_ := of_decide_eq_false t15b; omega
        refine WL.runs 15 [(2, .bool false), (30, .bool false), (29, undef), (28, undef), (27, undef), (26, .bool false), (25, .bool false), (24, undef), (23, undef), (22, undef), (21, .bool false), (20, .bool false), (19, undef), (18, undef), (17, undef)] (fun _ => by kernel_rfl) ?_
        refine WL.done rfl ?_
        refine QX.then_normal (hK9 _ _ ?_)
        refine WC.ret ?_
        refine (hret _ _ _ rfl ?_).1
        clear hN hret hret' hK9 hK2
        refine ⟨congrArg (fun b_ => Ending.returned (Value.bool b_)) (?_ : false = goodF f), hC6.fr⟩
        rw [Bool.eq_iff_iff]; simp only [goodF, Bool.and_eq_true, Bool.or_eq_true, decide_eq_true_eq, beq_iff_eq, Bool.false_eq_true, false_iff, true_iff]; try omega
    · -- f.proto = 17: false
      have t14 : ¬ (f.proto = 17) := by simpa using t14b
      refine WL.runs 20 [(2, .bool false), (30, .bool false), (29, undef), (28, undef), (27, undef), (26, .bool false), (25, .bool false), (24, undef), (23, undef), (22, undef), (21, .bool false), (20, .bool false), (19, undef), (18, undef), (17, undef), (16, .bool false), (15, .bool false), (14, undef), (13, undef), (12, undef)] (fun _ => by kernel_rfl) ?_
      refine WL.done rfl ?_
      refine QX.then_normal (hK9 _ _ ?_)
      refine WC.ret ?_
      refine (hret _ _ _ rfl ?_).1
      clear hN hret hret' hK9 hK2
      refine ⟨congrArg (fun b_ => Ending.returned (Value.bool b_)) (?_ : false = goodF f), hC6.fr⟩
      rw [Bool.eq_iff_iff]; simp only [goodF, Bool.and_eq_true, Bool.or_eq_true, decide_eq_true_eq, beq_iff_eq, Bool.false_eq_true, false_iff, true_iff]; try omega

end Go.Proofs.Ytimphmcoafapgaa
