/- Contracts of functions of the program, each proved by a walk through its code; conditions stand in the statements. -/
import Derived.Test.YtlpmmepbfafpfaaProg
import Derived.Test.YtlpmmepbfafpfaaTwObj
namespace Go.Proofs.Ytlpmmepbfafpfaa
set_option linter.unusedSimpArgs false
set_option linter.unusedVariables false
set_option linter.unusedSectionVars false
open Go Go.RowKit Go.Tw
set_option linter.unusedVariables false
set_option maxRecDepth 20000
def cmpI (a b : Int) : Int := if a < b then -1 else if a > b then 1 else 0
def orI : List Int → Int
  | [] => 0
  | x :: r => if x ≠ 0 then x else orI r
theorem orI_drop {xs : List Int} {k : Nat} {x : Int} (h : xs[k]? = some x) : orI (xs.drop k) = if x ≠ 0 then x else orI (xs.drop (k + 1)) := by
  obtain ⟨hk, rfl⟩ := List.getElem?_eq_some_iff.1 h
  rw [List.drop_eq_getElem_cons hk, orI]
theorem isNaN_int (x : Int) (w : World) : Calls Try.prog 75 #[.int .i64 x] w fun e w' => e = .returned (.bool false) ∧ Fr w w' [] := by
  refine enterD (n := 6) Try.func75 rfl rfl (Nat.le_of_ble_eq_true rfl) ?_
  intro Q0 hN hret hret'
  have hC := Cx.start w
  refine WC.seq (fun K1 hK2 => ?_)
  refine WC.region ?_
  refine WL.runs 1 [(2, .bool false)] (fun _ => by kernel_rfl) ?_
  refine WL.done rfl ?_
  refine QX.then_normal (hK2 _ _ ?_)
  refine WC.seq (fun K3 hK4 => ?_)
  refine WC.region ?_
  refine WL.runs 4 [(2, .bool (x != x)), (5, .bool (x != x)), (4, .int .i64 x), (3, .int .i64 x)] (fun _ => by kernel_rfl) ?_
  refine WL.done rfl ?_
  refine QX.then_normal (hK4 _ _ ?_)
  refine WC.ret ?_
  refine (hret _ _ _ rfl ?_).1
  clear hN hret hret' hK4 hK2
  exact ⟨by simp [shut], hC.fr⟩

theorem compare_int (x y : Int) (w : World) : Calls Try.prog 63 #[.int .i64 x, .int .i64 y] w fun e w' => e = .returned (.int .i64 (cmpI x y)) ∧ Fr w w' [] := by
  refine enterD (n := 20) Try.func63 rfl rfl (Nat.le_of_ble_eq_true rfl) ?_
  intro Q0 hN hret hret'
  have hC := Cx.start w
  refine WC.seq (fun K1 hK2 => ?_)
  refine WC.region ?_
  refine WL.runs 1 [(4, .int .i64 0)] (fun _ => by kernel_rfl) ?_
  refine WL.done rfl ?_
  refine QX.then_normal (hK2 _ _ ?_)
  refine WC.seq (fun K3 hK4 => ?_)
  refine WC.region ?_
  refine WL.runs 1 [(7, .int .i64 x)] (fun _ => by kernel_rfl) ?_
  refine WL.call rfl rfl rfl rfl rfl (by kernel_rfl) (isNaN_int x w) ?_
  rintro _ w6 ⟨rfl, hF5⟩
  refine ⟨_, rfl, ?_⟩
  have hC7 := hC.call hF5
  refine WL.runs 1 [(5, .bool false)] (fun _ => by kernel_rfl) ?_
  refine WL.done rfl ?_
  refine QX.then_normal (hK4 _ _ ?_)
  refine WC.seq (fun K8 hK9 => ?_)
  refine WC.region ?_
  refine WL.runs 1 [(9, .int .i64 y)] (fun _ => by kernel_rfl) ?_
  refine WL.call rfl rfl rfl rfl rfl (by kernel_rfl) (isNaN_int y w6) ?_
  rintro _ w11 ⟨rfl, hF10⟩
  refine ⟨_, rfl, ?_⟩
  have hC12 := hC7.call hF10
  refine WL.runs 1 [(6, .bool false)] (fun _ => by kernel_rfl) ?_
  refine WL.done rfl ?_
  refine QX.then_normal (hK9 _ _ ?_)
  refine WC.seq (fun K13 hK14 => ?_)
  refine WC.seq (fun K15 hK16 => ?_)
  refine WC.region ?_
  refine WL.runs 1 [(11, .bool false)] (fun _ => by kernel_rfl) ?_
  refine WL.done rfl ?_
  refine QX.then_normal (hK16 _ _ ?_)
  refine WC.cond_false rfl ?_
  refine WC.skip ?_
  refine QX.then_normal (hK14 _ _ ?_)
  refine WC.seq (fun K17 hK18 => ?_)
  refine WC.seq (fun K19 hK20 => ?_)
  refine WC.region ?_
  refine WL.runs 1 [(13, .bool false)] (fun _ => by kernel_rfl) ?_
  refine WL.done rfl ?_
  refine QX.then_normal (hK20 _ _ ?_)
  refine WC.cond_false rfl ?_
  refine WC.skip ?_
  refine QX.then_normal (hK18 _ _ ?_)
  refine WC.seq (fun K21 hK22 => ?_)
  refine WC.seq (fun K23 hK24 => ?_)
  refine WC.region ?_
  refine WL.runs 3 [(16, .bool (decide (x < y))), (15, .int .i64 y), (14, .int .i64 x)] (fun _ => by kernel_rfl) ?_
  refine WL.done rfl ?_
  refine QX.then_normal (hK24 _ _ ?_)
  refine WC.test_at 16 (decide (x < y)) rfl (fun t25b => ?_) (fun t25b => ?_)
  · -- x < y: true
    have t25 : x < y := by have q_ := of_decide_eq_true t25b; omega
    refine WC.cond_true rfl ?_
    refine WC.seq (fun K26 hK27 => ?_)
    refine WC.region ?_
    refine WL.runs 1 [(4, .int .i64 (-1))] (fun _ => by kernel_rfl) ?_
    refine WL.done rfl ?_
    refine QX.then_normal (hK27 _ _ ?_)
    refine WC.ret ?_
    refine QX.then_ret ?_
    refine (hret _ _ _ rfl ?_).1
    clear hN hret hret' hK27 hK24 hK22 hK20 hK18 hK16 hK14 hK9 hK4 hK2
    exact ⟨by simp [shut, cmpI]; try grind, hC12.fr⟩
  · -- x < y: false
    have t25 : y ≤ x := by have q_ := of_decide_eq_false t25b; omega
    refine WC.cond_false rfl ?_
    refine WC.skip ?_
    refine QX.then_normal (hK22 _ _ ?_)
    refine WC.seq (fun K28 hK29 => ?_)
    refine WC.seq (fun K30 hK31 => ?_)
    refine WC.region ?_
    refine WL.runs 3 [(19, .bool (decide (x > y))), (18, .int .i64 y), (17, .int .i64 x)] (fun _ => by kernel_rfl) ?_
    refine WL.done rfl ?_
    refine QX.then_normal (hK31 _ _ ?_)
    refine WC.test_at 19 (decide (x > y)) rfl (fun t32b => ?_) (fun t32b => ?_)
    · -- x > y: true
      have t32 : y < x := by have q_ := of_decide_eq_true t32b; omega
      refine WC.cond_true rfl ?_
      refine WC.seq (fun K33 hK34 => ?_)
      refine WC.region ?_
      refine WL.runs 1 [(4, .int .i64 1)] (fun _ => by kernel_rfl) ?_
      refine WL.done rfl ?_
      refine QX.then_normal (hK34 _ _ ?_)
      refine WC.ret ?_
      refine QX.then_ret ?_
      refine (hret _ _ _ rfl ?_).1
      clear hN hret hret' hK34 hK31 hK29 hK24 hK22 hK20 hK18 hK16 hK14 hK9 hK4 hK2
      exact ⟨by simp [shut, cmpI]; try grind, hC12.fr⟩
    · -- x > y: false
      have t32 : x ≤ y := by have q_ := of_decide_eq_false t32b; omega
      refine WC.cond_false rfl ?_
      refine WC.skip ?_
      refine QX.then_normal (hK29 _ _ ?_)
      refine WC.seq (fun K35 hK36 => ?_)
      refine WC.region ?_
      refine WL.runs 1 [(4, .int .i64 0)] (fun _ => by kernel_rfl) ?_
      refine WL.done rfl ?_
      refine QX.then_normal (hK36 _ _ ?_)
      refine WC.ret ?_
      refine (hret _ _ _ rfl ?_).1
      clear hN hret hret' hK36 hK31 hK29 hK24 hK22 hK20 hK18 hK16 hK14 hK9 hK4 hK2
      exact ⟨by simp [shut, cmpI]; try grind, hC12.fr⟩

theorem or_int (A : Option Addr) (c : Nat) (xs : List Int) (w : World) (hr : Rd w 1 (encI .i64) A xs) (hm : xs.length < 2 ^ 60) : Calls Try.prog 62 #[.slice A xs.length c] w fun e w' => e = .returned (.int .i64 (orI xs)) ∧ Fr w w' [] := by
  refine enterD (n := 18) Try.func62 rfl rfl (Nat.le_of_ble_eq_true rfl) ?_
  intro Q0 hN hret hret'
  have hC := Cx.start w
  refine WC.seq (fun K1 hK2 => ?_)
  refine WC.region ?_
  refine WL.runs 1 [(2, .int .i64 0)] (fun _ => by kernel_rfl) ?_
  refine WL.done rfl ?_
  refine QX.then_normal (hK2 _ _ ?_)
  refine WC.seq (fun K3 hK4 => ?_)
  refine WC.region ?_
  refine WL.runs 1 [(3, .int .i64 0)] (fun _ => by kernel_rfl) ?_
  refine WL.done rfl ?_
  refine QX.then_normal (hK4 _ _ ?_)
  refine WC.seq (fun K5 hK6 => ?_)
  refine WC.seq (fun K7 hK8 => ?_)
  refine WC.region ?_
  refine WL.runs 3 [(8, .int .i64 0), (7, .int .i64 (xs.length : Int)), (6, .slice A xs.length c)] (fun _ => by kernel_rfl) ?_
  refine WL.done rfl ?_
  refine QX.then_normal (hK8 _ _ ?_)
  refine WC.block ?_
  refine WC.loop (fun m_ E_ w_ => ∃ (k : Nat), m_ = xs.length - k ∧ E_ = [(0, .slice A xs.length c), (3, .int .i64 0), (6, .slice A xs.length c), (7, .int .i64 (xs.length : Int)), (8, .int .i64 (k : Int))] ∧ Cx w [] w_ [] [] ∧ (k ≤ xs.length ∧ orI xs = orI (xs.drop k))) ⟨_, _, ⟨0, rfl, rfl, hC, Nat.zero_le _, rfl⟩, sub_of ⟨rfl, rfl, rfl, rfl, rfl, trivial⟩⟩ (fun m12 E_ w13 K9 hK10 hI11 => ?_)
  obtain ⟨k, rfl, rfl, hC14, hk, hor⟩ := hI11
  refine WC.seq (fun K15 hK16 => ?_)
  refine WC.region ?_
  refine WL.runs 1 [(9, .bool (decide ((k : Int) < (xs.length : Int))))] (fun _ => by kernel_rfl) ?_
  refine WL.done rfl ?_
  refine QX.then_normal (hK16 _ _ ?_)
  refine WC.seq (fun K17 hK18 => ?_)
  refine WC.test_at 9 (decide ((k : Int) < (xs.length : Int))) rfl (fun t19b => ?_) (fun t19b => ?_)
  · -- (k : Int) < (xs.length : Int): true
    have t19 : (k : Int) < (xs.length : Int) := by have q_ := of_decide_eq_true t19b; omega
    refine WC.cond_true rfl ?_
    refine WC.skip ?_
    refine QX.then_normal (hK18 _ _ ?_)
    refine WC.seq (fun K20 hK21 => ?_)
    refine WC.block ?_
    refine WC.seq (fun K22 hK23 => ?_)
    refine WC.region ?_
    obtain ⟨e24, he25⟩ := get_some (xs := xs) (i := k) (by omega)
    obtain ⟨b26, o28, hA27, hc29⟩ := hr.at_ _ _ he25
    refine WL.index A xs.length c 10 .i64 (k : Int) b26 o28 k 1 (by kernel_rfl) hA27 (by omega) (by omega) (o28 + k) (by first | (simp; done) | omega) ?_
    refine WL.load 3 (.pointer (some ⟨b26, o28 + k, none⟩)) (.int .i64 e24) 11 (by kernel_rfl) (run_load1 rfl (by simpa [Nat.add_assoc] using hC14.fr.cell (hc29 0 _ rfl) (by simp))) ?_
    refine WL.runs 1 [(5, .int .i64 e24)] (fun _ => by kernel_rfl) ?_
    refine WL.done rfl ?_
    refine QX.then_normal (hK23 _ _ ?_)
    refine WC.seq (fun K30 hK31 => ?_)
    refine WC.region ?_
    refine WL.runs 3 [(14, .bool (e24 != 0)), (13, .int .i64 0), (12, .int .i64 e24)] (fun _ => by kernel_rfl) ?_
    refine WL.done rfl ?_
    refine QX.then_normal (hK31 _ _ ?_)
    refine WC.test_at 14 (e24 != 0) rfl (fun t32b => ?_) (fun t32b => ?_)
    · -- e24 ≠ 0: true
      have t32 : e24 ≠ 0 := by simpa using t32b
      refine WC.cond_true rfl ?_
      refine WC.seq (fun K33 hK34 => ?_)
      refine WC.region ?_
      refine WL.runs 2 [(2, .int .i64 e24), (15, .int .i64 e24)] (fun _ => by kernel_rfl) ?_
      refine WL.done rfl ?_
      refine QX.then_normal (hK34 _ _ ?_)
      refine WC.ret ?_
      refine QX.block_ret ?_
      refine QX.then_ret ?_
      refine QX.then_ret ?_
      refine QX.block_ret ?_
      refine QX.then_ret ?_
      refine (hret _ _ _ rfl ?_).1
      clear hN hret hret' hK34 hK31 hK23 hK21 hK18 hK16 hK8 hK6 hK4 hK2
      exact ⟨by simp [shut]; rw [hor, orI_drop he25, if_pos (by assumption)], hC14.fr⟩
    · -- e24 ≠ 0: false
      have t32 : e24 = 0 := by simpa using t32b
      refine WC.cond_false rfl ?_
      refine WC.skip ?_
      refine QX.block_normal ?_
      refine QX.then_normal (hK21 _ _ ?_)
      refine WC.region ?_
      refine WL.runs 1 [(16, .int .i64 (IntKind.i64.wrap ((k : Int) + 1)))] (fun _ => by kernel_rfl) ?_
      refine WL.recast (show (.int .i64 (IntKind.i64.wrap ((k : Int) + 1)) : Value) = .int .i64 ((k : Int) + 1) from by rw [wrap_in_i64 ((k : Int) + 1) (by omega) (by omega)]) ?_
      refine WL.runs 1 [(8, .int .i64 ((k : Int) + 1))] (fun _ => by kernel_rfl) ?_
      refine WL.done rfl ?_
      refine QX.then_normal ?_
      have hC35 := hC14.pick [] [] rfl rfl
      refine fun a_ ha_ => hK10 _ _ _ ?_ ⟨k + 1, rfl, rfl, hC35, by omega, by rw [hor, orI_drop he25]; simp [*]⟩ a_ (ha_.weaken (sub_of ⟨rfl, rfl, rfl, rfl, rfl, trivial⟩))
      omega
  · -- (k : Int) < (xs.length : Int): false
    have t19 : (xs.length : Int) ≤ (k : Int) := by have q_ := of_decide_eq_false t19b; omega
    refine WC.cond_false rfl ?_
    refine WC.exit ?_
    refine QX.then_exit ?_
    refine QX.then_exit ?_
    refine QX.block_hit ?_
    refine QX.then_normal (hK6 _ _ ?_)
    refine WC.seq (fun K36 hK37 => ?_)
    refine WC.region ?_
    refine WL.runs 2 [(2, .int .i64 0), (17, .int .i64 0)] (fun _ => by kernel_rfl) ?_
    refine WL.done rfl ?_
    refine QX.then_normal (hK37 _ _ ?_)
    refine WC.ret ?_
    refine (hret _ _ _ rfl ?_).1
    clear hN hret hret' hK37 hK18 hK16 hK8 hK6 hK4 hK2
    exact ⟨by simp [shut]; rw [hor, List.drop_of_length_le (by omega)]; simp [orI], hC14.fr⟩

theorem and255 (x : Int) (h0 : 0 ≤ x) (h1 : x ≤ 4294967295) : Go.bits .and .u32 x 255 = x % 256 := by
  obtain ⟨n, rfl⟩ := Int.eq_ofNat_of_zero_le h0
  show IntKind.u32.wrap ((BitVec.ofInt 32 (n : Int) &&& BitVec.ofInt 32 255).toNat : Int) = _
  rw [BitVec.toNat_and, BitVec.ofInt_natCast]
  have h2 : (BitVec.ofInt 32 255).toNat = 2 ^ 8 - 1 := by decide
  rw [h2, Nat.and_two_pow_sub_one_eq_mod, BitVec.toNat_ofNat, Nat.mod_eq_of_lt (show n < 2 ^ 32 by omega), IntKind.wrap_u32]
  omega
theorem or_dip (h v : Int) (h0 : 0 ≤ h) (h1 : h < 8) (v0 : 0 ≤ v) (v1 : v < 16) : Go.bits .or .u32 (Go.bits .or .u32 167837696 (IntKind.u32.wrap (IntKind.u32.wrap h * 2 ^ 8))) (IntKind.u32.wrap v) = 167837696 + 256 * h + v := by
  obtain ⟨n, rfl⟩ := Int.eq_ofNat_of_zero_le h0
  obtain ⟨m, rfl⟩ := Int.eq_ofNat_of_zero_le v0
  have hn : n < 8 := by omega
  have hm : m < 16 := by omega
  have key : ∀ n : Fin 8, ∀ m : Fin 16, Go.bits .or .u32 (Go.bits .or .u32 167837696 (IntKind.u32.wrap (IntKind.u32.wrap (n.val : Int) * 2 ^ 8))) (IntKind.u32.wrap (m.val : Int)) = 167837696 + 256 * (n.val : Int) + (m.val : Int) := by decide +kernel
  exact key ⟨n, hn⟩ ⟨m, hm⟩
def dipOk (h v : Int) : Bool := decide (0 ≤ h ∧ h < 8 ∧ 0 ≤ v ∧ v < 16)
def isHome (a : Int) : Bool := decide (167837696 ≤ a ∧ (a - 167837696) / 256 < 8 ∧ (a - 167837696) % 256 < 16)
def isVip (a : Int) : Bool := decide (1 ≤ a / 16777216 ∧ a / 16777216 ≤ 223 ∧ a / 16777216 ≠ 10 ∧ a / 16777216 ≠ 127)
theorem Dip_yes (h v : Int) (w : World) (h0 : 0 ≤ h) (h1 : h < 8) (v0 : 0 ≤ v) (v1 : v < 16) : Calls Try.prog 79 #[.int .i64 h, .int .i64 v] w fun e w' => e = .returned (.tuple #[.int .u32 (167837696 + 256 * h + v), .nilIface]) ∧ Fr w w' [] := by
  refine enterD (n := 28) Try.func79 rfl rfl (Nat.le_of_ble_eq_true rfl) ?_
  intro Q0 hN hret hret'
  have hC := Cx.start w
  refine WC.seq (fun K1 hK2 => ?_)
  refine WC.region ?_
  refine WL.runs 2 [(5, .nilIface), (4, .int .u32 0)] (fun _ => by kernel_rfl) ?_
  refine WL.done rfl ?_
  refine QX.then_normal (hK2 _ _ ?_)
  refine WC.seq (fun K3 hK4 => ?_)
  refine WC.seq (fun K5 hK6 => ?_)
  refine WC.region ?_
  refine WL.runs 3 [(8, .bool (decide (h < 0))), (7, .bool (decide (h < 0))), (6, .int .i64 h)] (fun _ => by kernel_rfl) ?_
  refine WL.know 8 (.bool (decide (h < 0))) (.bool false) rfl (congrArg Value.bool (by simpa using h0)) ?_
  refine WL.runs 4 [(12, .bool (decide (h ≥ 8))), (11, .bool (decide (h ≥ 8))), (10, .bool (decide (h ≥ 8))), (9, .int .i64 h)] (fun _ => by kernel_rfl) ?_
  refine WL.know 12 (.bool (decide (h ≥ 8))) (.bool false) rfl (congrArg Value.bool (by simpa using h1)) ?_
  refine WL.runs 4 [(16, .bool (decide (v < 0))), (15, .bool (decide (v < 0))), (14, .bool (decide (v < 0))), (13, .int .i64 v)] (fun _ => by kernel_rfl) ?_
  refine WL.know 16 (.bool (decide (v < 0))) (.bool false) rfl (congrArg Value.bool (by simpa using v0)) ?_
  refine WL.runs 3 [(19, .bool (decide (v ≥ 16))), (18, .bool (decide (v ≥ 16))), (17, .int .i64 v)] (fun _ => by kernel_rfl) ?_
  refine WL.done rfl ?_
  refine QX.then_normal (hK6 _ _ ?_)
  refine WC.know 19 (.bool (decide (v ≥ 16))) (.bool false) rfl (congrArg Value.bool (by simpa using v1)) ?_
  refine WC.cond_false rfl ?_
  refine WC.skip ?_
  refine QX.then_normal (hK4 _ _ ?_)
  refine WC.seq (fun K7 hK8 => ?_)
  refine WC.region ?_
  refine WL.runs 9 [(5, .nilIface), (4, .int .u32 (Go.bits .or .u32 (Go.bits .or .u32 167837696 (IntKind.u32.wrap ((IntKind.u32.wrap (h)) * 2 ^ 8))) (IntKind.u32.wrap (v)))), (27, .int .u32 (Go.bits .or .u32 (Go.bits .or .u32 167837696 (IntKind.u32.wrap ((IntKind.u32.wrap (h)) * 2 ^ 8))) (IntKind.u32.wrap (v)))), (26, .int .u32 (IntKind.u32.wrap (v))), (25, .int .i64 v), (24, .int .u32 (Go.bits .or .u32 167837696 (IntKind.u32.wrap ((IntKind.u32.wrap (h)) * 2 ^ 8)))), (23, .int .u32 (IntKind.u32.wrap ((IntKind.u32.wrap (h)) * 2 ^ 8))), (22, .int .u32 (IntKind.u32.wrap (h))), (21, .int .i64 h)] (fun _ => by kernel_rfl) ?_
  refine WL.done rfl ?_
  refine QX.then_normal (hK8 _ _ ?_)
  refine WC.ret ?_
  refine (hret _ _ _ rfl ?_).1
  clear hN hret hret' hK8 hK6 hK4 hK2
  exact ⟨by rw [← or_dip h v h0 h1 v0 v1]; rfl, hC.fr⟩

theorem Dip_no (h v : Int) (w : World) (hb : dipOk h v = false) : Calls Try.prog 79 #[.int .i64 h, .int .i64 v] w fun e w' => e = .returned (.tuple #[.int .u32 0, .iface 71 (.int .i64 12)]) ∧ Fr w w' [] := by
  refine enterD (n := 28) Try.func79 rfl rfl (Nat.le_of_ble_eq_true rfl) ?_
  intro Q0 hN hret hret'
  have hC := Cx.start w
  refine WC.seq (fun K1 hK2 => ?_)
  refine WC.region ?_
  refine WL.runs 2 [(5, .nilIface), (4, .int .u32 0)] (fun _ => by kernel_rfl) ?_
  refine WL.done rfl ?_
  refine QX.then_normal (hK2 _ _ ?_)
  refine WC.seq (fun K3 hK4 => ?_)
  refine WC.seq (fun K5 hK6 => ?_)
  refine WC.region ?_
  refine WL.runs 3 [(8, .bool (decide (h < 0))), (7, .bool (decide (h < 0))), (6, .int .i64 h)] (fun _ => by kernel_rfl) ?_
  refine WL.test_at 8 (decide (h < 0)) rfl (fun t7b => ?_) (fun t7b => ?_)
  · -- h < 0: true
    have t7 : h < 0 := by have q_ := of_decide_eq_true t7b; omega
    refine WL.runs 11 [(19, .bool true), (18, undef), (17, undef), (16, .bool true), (15, .bool true), (14, undef), (13, undef), (12, .bool true), (11, .bool true), (10, undef), (9, undef)] (fun _ => by kernel_rfl) ?_
    refine WL.done rfl ?_
    refine QX.then_normal (hK6 _ _ ?_)
    refine WC.cond_true rfl ?_
    refine WC.seq (fun K8 hK9 => ?_)
    refine WC.region ?_
    refine WL.runs 3 [(5, .iface 71 (.int .i64 12)), (4, .int .u32 0), (20, .iface 71 (.int .i64 12))] (fun _ => by kernel_rfl) ?_
    refine WL.done rfl ?_
    refine QX.then_normal (hK9 _ _ ?_)
    refine WC.ret ?_
    refine QX.then_ret ?_
    refine (hret _ _ _ rfl ?_).1
    clear hN hret hret' hK9 hK6 hK4 hK2
    exact ⟨rfl, hC.fr⟩
  · -- h < 0: false
    have t7 : (0 : Int) ≤ h := by have q_ := of_decide_eq_false t7b; omega
    refine WL.runs 4 [(12, .bool (decide (h ≥ 8))), (11, .bool (decide (h ≥ 8))), (10, .bool (decide (h ≥ 8))), (9, .int .i64 h)] (fun _ => by kernel_rfl) ?_
    refine WL.test_at 12 (decide (h ≥ 8)) rfl (fun t10b => ?_) (fun t10b => ?_)
    · -- h ≥ 8: true
      have t10 : (8 : Int) ≤ h := by have q_ := of_decide_eq_true t10b; omega
      refine WL.runs 7 [(19, .bool true), (18, undef), (17, undef), (16, .bool true), (15, .bool true), (14, undef), (13, undef)] (fun _ => by kernel_rfl) ?_
      refine WL.done rfl ?_
      refine QX.then_normal (hK6 _ _ ?_)
      refine WC.cond_true rfl ?_
      refine WC.seq (fun K11 hK12 => ?_)
      refine WC.region ?_
      refine WL.runs 3 [(5, .iface 71 (.int .i64 12)), (4, .int .u32 0), (20, .iface 71 (.int .i64 12))] (fun _ => by kernel_rfl) ?_
      refine WL.done rfl ?_
      refine QX.then_normal (hK12 _ _ ?_)
      refine WC.ret ?_
      refine QX.then_ret ?_
      refine (hret _ _ _ rfl ?_).1
      clear hN hret hret' hK12 hK6 hK4 hK2
      exact ⟨rfl, hC.fr⟩
    · -- h ≥ 8: false
      have t10 : h < 8 := by have q_ := of_decide_eq_false t10b; omega
      refine WL.runs 4 [(16, .bool (decide (v < 0))), (15, .bool (decide (v < 0))), (14, .bool (decide (v < 0))), (13, .int .i64 v)] (fun _ => by kernel_rfl) ?_
      refine WL.test_at 16 (decide (v < 0)) rfl (fun t13b => ?_) (fun t13b => ?_)
      · -- v < 0: true
        have t13 : v < 0 := by have q_ := of_decide_eq_true t13b; omega
        refine WL.runs 3 [(19, .bool true), (18, undef), (17, undef)] (fun _ => by kernel_rfl) ?_
        refine WL.done rfl ?_
        refine QX.then_normal (hK6 _ _ ?_)
        refine WC.cond_true rfl ?_
        refine WC.seq (fun K14 hK15 => ?_)
        refine WC.region ?_
        refine WL.runs 3 [(5, .iface 71 (.int .i64 12)), (4, .int .u32 0), (20, .iface 71 (.int .i64 12))] (fun _ => by kernel_rfl) ?_
        refine WL.done rfl ?_
        refine QX.then_normal (hK15 _ _ ?_)
        refine WC.ret ?_
        refine QX.then_ret ?_
        refine (hret _ _ _ rfl ?_).1
        clear hN hret hret' hK15 hK6 hK4 hK2
        exact ⟨rfl, hC.fr⟩
      · -- v < 0: false
        have t13 : (0 : Int) ≤ v := by have q_ := of_decide_eq_false t13b; omega
        refine WL.runs 3 [(19, .bool (decide (v ≥ 16))), (18, .bool (decide (v ≥ 16))), (17, .int .i64 v)] (fun _ => by kernel_rfl) ?_
        refine WL.done rfl ?_
        refine QX.then_normal (hK6 _ _ ?_)
        refine WC.test_at 19 (decide (v ≥ 16)) rfl (fun t16b => ?_) (fun t16b => ?_)
        · -- v ≥ 16: true
          have t16 : (16 : Int) ≤ v := by have q_ := of_decide_eq_true t16b; omega
          refine WC.cond_true rfl ?_
          refine WC.seq (fun K17 hK18 => ?_)
          refine WC.region ?_
          refine WL.runs 3 [(5, .iface 71 (.int .i64 12)), (4, .int .u32 0), (20, .iface 71 (.int .i64 12))] (fun _ => by kernel_rfl) ?_
          refine WL.done rfl ?_
          refine QX.then_normal (hK18 _ _ ?_)
          refine WC.ret ?_
          refine QX.then_ret ?_
          refine (hret _ _ _ rfl ?_).1
          clear hN hret hret' hK18 hK6 hK4 hK2
          exact ⟨rfl, hC.fr⟩
        · -- v ≥ 16: false
          have t16 : v < 16 := by have q_ := of_decide_eq_false t16b; omega
          refine WC.cond_false rfl ?_
          refine WC.skip ?_
          refine QX.then_normal (hK4 _ _ ?_)
          refine WC.seq (fun K19 hK20 => ?_)
          refine WC.region ?_
          refine WL.runs 9 [(5, .nilIface), (4, .int .u32 (Go.bits .or .u32 (Go.bits .or .u32 167837696 (IntKind.u32.wrap ((IntKind.u32.wrap (h)) * 2 ^ 8))) (IntKind.u32.wrap (v)))), (27, .int .u32 (Go.bits .or .u32 (Go.bits .or .u32 167837696 (IntKind.u32.wrap ((IntKind.u32.wrap (h)) * 2 ^ 8))) (IntKind.u32.wrap (v)))), (26, .int .u32 (IntKind.u32.wrap (v))), (25, .int .i64 v), (24, .int .u32 (Go.bits .or .u32 167837696 (IntKind.u32.wrap ((IntKind.u32.wrap (h)) * 2 ^ 8)))), (23, .int .u32 (IntKind.u32.wrap ((IntKind.u32.wrap (h)) * 2 ^ 8))), (22, .int .u32 (IntKind.u32.wrap (h))), (21, .int .i64 h)] (fun _ => by kernel_rfl) ?_
          refine WL.done rfl ?_
          refine QX.then_normal (hK20 _ _ ?_)
          refine WC.ret ?_
          refine (hret _ _ _ rfl ?_).1
          clear hN hret hret' hK20 hK6 hK4 hK2
          exfalso; simp [dipOk] at hb; omega

def homeN (a : Int) : Int := if isHome a then 48 + (a - 167837696) / 256 else 0
def homeV (a : Int) : Int := if isHome a then (a - 167837696) % 256 else 0
theorem home_hit {a : Int} (h0 : 0 ≤ a) (h1 : a ≤ 4294967295) (hd : a / 256 % 256 < 8 ∧ a % 256 < 16) (t : 167837696 + 256 * (a / 256 % 256) + a % 256 = a) : isHome a = true ∧ homeN a = 48 + a / 256 % 256 ∧ homeV a = a % 256 := by
  have h : isHome a = true := by simp [isHome]; omega
  refine ⟨h, ?_, ?_⟩
  · simp [homeN, h]; omega
  · simp [homeV, h]; omega
theorem home_miss {a : Int} (h0 : 0 ≤ a) (h1 : a ≤ 4294967295) (hd : ¬ (a / 256 % 256 < 8 ∧ a % 256 < 16) ∨ ¬ 167837696 + 256 * (a / 256 % 256) + a % 256 = a) : isHome a = false ∧ homeN a = 0 ∧ homeV a = 0 := by
  have h : isHome a = false := by simp [isHome]; omega
  exact ⟨h, by simp [homeN, h], by simp [homeV, h]⟩
theorem Home_ct (a : Int) (w : World) (h0 : 0 ≤ a) (h1 : a ≤ 4294967295) : Calls Try.prog 71 #[.int .u32 a] w fun e w' => e = .returned (.tuple #[.int .i64 (homeN a), .int .i64 (homeV a), .bool (isHome a)]) ∧ Fr w w' [] := by
  refine enterD (n := 32) Try.func71 rfl rfl (Nat.le_of_ble_eq_true rfl) ?_
  intro Q0 hN hret hret'
  have hC := Cx.start w
  refine WC.seq (fun K1 hK2 => ?_)
  refine WC.region ?_
  refine WL.runs 3 [(4, .bool false), (3, .int .i64 0), (2, .int .i64 0)] (fun _ => by kernel_rfl) ?_
  refine WL.done rfl ?_
  refine QX.then_normal (hK2 _ _ ?_)
  refine WC.seq (fun K3 hK4 => ?_)
  refine WC.region ?_
  refine WL.runs 2 [(10, .int .u32 ((a : Int).fdiv (2 ^ 8))), (9, .int .u32 a)] (fun _ => by kernel_rfl) ?_
  refine WL.recast (show (.int .u32 ((a : Int).fdiv (2 ^ 8)) : Value) = .int .u32 ((a : Int) / 256) from by rw [Int.fdiv_eq_ediv_of_nonneg (a : Int) (by decide)]; rfl) ?_
  refine WL.runs 1 [(11, .int .u32 (Go.bits .and .u32 ((a : Int) / 256) 255))] (fun _ => by kernel_rfl) ?_
  refine WL.recast (show (.int .u32 (Go.bits .and .u32 ((a : Int) / 256) 255) : Value) = .int .u32 (((a : Int) / 256) % 256) from by rw [and255 _ (by omega) (by omega)]) ?_
  refine WL.runs 1 [(12, .int .i64 (IntKind.i64.wrap (((a : Int) / 256) % 256)))] (fun _ => by kernel_rfl) ?_
  refine WL.recast (show (.int .i64 (IntKind.i64.wrap (((a : Int) / 256) % 256)) : Value) = .int .i64 (((a : Int) / 256) % 256) from by rw [wrap_in_i64 (((a : Int) / 256) % 256) (by omega) (by omega)]) ?_
  refine WL.runs 2 [(14, .int .u32 (Go.bits .and .u32 a 255)), (13, .int .u32 a)] (fun _ => by kernel_rfl) ?_
  refine WL.recast (show (.int .u32 (Go.bits .and .u32 a 255) : Value) = .int .u32 (a % 256) from by rw [and255 _ (by omega) (by omega)]) ?_
  refine WL.runs 1 [(15, .int .i64 (IntKind.i64.wrap (a % 256)))] (fun _ => by kernel_rfl) ?_
  refine WL.recast (show (.int .i64 (IntKind.i64.wrap (a % 256)) : Value) = .int .i64 (a % 256) from by rw [wrap_in_i64 (a % 256) (by omega) (by omega)]) ?_
  refine WL.runs 2 [(6, .int .i64 (a % 256)), (5, .int .i64 (((a : Int) / 256) % 256))] (fun _ => by kernel_rfl) ?_
  refine WL.done rfl ?_
  refine QX.then_normal (hK4 _ _ ?_)
  refine WC.seq (fun K5 hK6 => ?_)
  refine WC.seq (fun K7 hK8 => ?_)
  refine WC.region ?_
  refine WL.runs 2 [(18, .int .i64 (a % 256)), (17, .int .i64 (((a : Int) / 256) % 256))] (fun _ => by kernel_rfl) ?_
  by_cases hd : ((a : Int) / 256) % 256 < 8 ∧ a % 256 < 16
  ·
    refine WL.call rfl rfl rfl rfl rfl (by kernel_rfl) (Dip_yes (((a : Int) / 256) % 256) (a % 256) w (by omega) hd.1 (by omega) hd.2) ?_
    rintro _ w10 ⟨rfl, hF9⟩
    refine ⟨_, rfl, ?_⟩
    have hC11 := hC.call hF9
    refine WL.runs 5 [(8, .nilIface), (7, .int .u32 (167837696 + 256 * (((a : Int) / 256) % 256) + (a % 256))), (21, .nilIface), (20, .int .u32 (167837696 + 256 * (((a : Int) / 256) % 256) + (a % 256))), (16, .tuple #[.int .u32 (167837696 + 256 * (((a : Int) / 256) % 256) + (a % 256)), .nilIface])] (fun _ => by kernel_rfl) ?_
    refine WL.done rfl ?_
    refine QX.then_normal (hK8 _ _ ?_)
    refine WC.seq (fun K12 hK13 => ?_)
    refine WC.region ?_
    refine WL.runs 7 [(28, .bool ((167837696 + 256 * (((a : Int) / 256) % 256) + (a % 256)) != a)), (27, .bool ((167837696 + 256 * (((a : Int) / 256) % 256) + (a % 256)) != a)), (26, .int .u32 a), (25, .int .u32 (167837696 + 256 * (((a : Int) / 256) % 256) + (a % 256))), (24, .bool false), (23, .bool false), (22, .nilIface)] (fun _ => by kernel_rfl) ?_
    refine WL.done rfl ?_
    refine QX.then_normal (hK13 _ _ ?_)
    refine WC.test_at 28 ((167837696 + 256 * (((a : Int) / 256) % 256) + (a % 256)) != a) rfl (fun t14b => ?_) (fun t14b => ?_)
    · -- (167837696 + 256 * (((a : Int) / 256) % 256) + (a % 256)) ≠ a: true
      have t14 : (167837696 + 256 * (((a : Int) / 256) % 256) + (a % 256)) ≠ a := by simpa using t14b
      refine WC.cond_true rfl ?_
      refine WC.seq (fun K15 hK16 => ?_)
      refine WC.region ?_
      refine WL.runs 3 [(4, .bool false), (3, .int .i64 0), (2, .int .i64 0)] (fun _ => by kernel_rfl) ?_
      refine WL.done rfl ?_
      refine QX.then_normal (hK16 _ _ ?_)
      refine WC.ret ?_
      refine QX.then_ret ?_
      refine (hret _ _ _ rfl ?_).1
      clear hN hret hret' hK16 hK13 hK8 hK6 hK4 hK2
      obtain ⟨q1, q2, q3⟩ := home_miss h0 h1 (by omega)
      exact ⟨by rw [q1, q2, q3]; rfl, hC11.fr⟩
    · -- (167837696 + 256 * (((a : Int) / 256) % 256) + (a % 256)) ≠ a: false
      have t14 : (167837696 + 256 * (((a : Int) / 256) % 256) + (a % 256)) = a := by simpa using t14b
      refine WC.cond_false rfl ?_
      refine WC.skip ?_
      refine QX.then_normal (hK6 _ _ ?_)
      refine WC.seq (fun K17 hK18 => ?_)
      refine WC.region ?_
      refine WL.runs 2 [(30, .int .i64 (IntKind.i64.wrap (48 + (((a : Int) / 256) % 256)))), (29, .int .i64 (((a : Int) / 256) % 256))] (fun _ => by kernel_rfl) ?_
      refine WL.recast (show (.int .i64 (IntKind.i64.wrap (48 + (((a : Int) / 256) % 256))) : Value) = .int .i64 (48 + (((a : Int) / 256) % 256)) from by rw [wrap_in_i64 (48 + (((a : Int) / 256) % 256)) (by omega) (by omega)]) ?_
      refine WL.runs 4 [(4, .bool true), (3, .int .i64 (a % 256)), (2, .int .i64 (48 + (((a : Int) / 256) % 256))), (31, .int .i64 (a % 256))] (fun _ => by kernel_rfl) ?_
      refine WL.done rfl ?_
      refine QX.then_normal (hK18 _ _ ?_)
      refine WC.ret ?_
      refine (hret _ _ _ rfl ?_).1
      clear hN hret hret' hK18 hK13 hK8 hK6 hK4 hK2
      obtain ⟨q1, q2, q3⟩ := home_hit h0 h1 hd (by omega)
      exact ⟨by rw [q1, q2, q3]; rfl, hC11.fr⟩
  ·
    refine WL.call rfl rfl rfl rfl rfl (by kernel_rfl) (Dip_no (((a : Int) / 256) % 256) (a % 256) w (by simp [dipOk]; omega)) ?_
    rintro _ w20 ⟨rfl, hF19⟩
    refine ⟨_, rfl, ?_⟩
    have hC21 := hC.call hF19
    refine WL.runs 5 [(8, .iface 71 (.int .i64 12)), (7, .int .u32 0), (21, .iface 71 (.int .i64 12)), (20, .int .u32 0), (16, .tuple #[.int .u32 0, .iface 71 (.int .i64 12)])] (fun _ => by kernel_rfl) ?_
    refine WL.done rfl ?_
    refine QX.then_normal (hK8 _ _ ?_)
    refine WC.seq (fun K22 hK23 => ?_)
    refine WC.region ?_
    refine WL.runs 7 [(28, .bool true), (27, undef), (26, undef), (25, undef), (24, .bool true), (23, .bool true), (22, .iface 71 (.int .i64 12))] (fun _ => by kernel_rfl) ?_
    refine WL.done rfl ?_
    refine QX.then_normal (hK23 _ _ ?_)
    refine WC.cond_true rfl ?_
    refine WC.seq (fun K24 hK25 => ?_)
    refine WC.region ?_
    refine WL.runs 3 [(4, .bool false), (3, .int .i64 0), (2, .int .i64 0)] (fun _ => by kernel_rfl) ?_
    refine WL.done rfl ?_
    refine QX.then_normal (hK25 _ _ ?_)
    refine WC.ret ?_
    refine QX.then_ret ?_
    refine (hret _ _ _ rfl ?_).1
    clear hN hret hret' hK25 hK23 hK8 hK6 hK4 hK2
    obtain ⟨q1, q2, q3⟩ := home_miss h0 h1 (by omega)
    exact ⟨by rw [q1, q2, q3]; rfl, hC21.fr⟩

theorem IsVip_ct (a : Int) (w : World) (h0 : 0 ≤ a) (h1 : a ≤ 4294967295) : Calls Try.prog 72 #[.int .u32 a] w fun e w' => e = .returned (.bool (isVip a)) ∧ Fr w w' [] := by
  refine enterD (n := 20) Try.func72 rfl rfl (Nat.le_of_ble_eq_true rfl) ?_
  intro Q0 hN hret hret'
  have hC := Cx.start w
  refine WC.seq (fun K1 hK2 => ?_)
  refine WC.region ?_
  refine WL.runs 1 [(2, .bool false)] (fun _ => by kernel_rfl) ?_
  refine WL.done rfl ?_
  refine QX.then_normal (hK2 _ _ ?_)
  refine WC.seq (fun K3 hK4 => ?_)
  refine WC.region ?_
  refine WL.runs 2 [(5, .int .u32 ((a : Int).fdiv (2 ^ 24))), (4, .int .u32 a)] (fun _ => by kernel_rfl) ?_
  refine WL.recast (show (.int .u32 ((a : Int).fdiv (2 ^ 24)) : Value) = .int .u32 ((a : Int) / 16777216) from by rw [Int.fdiv_eq_ediv_of_nonneg (a : Int) (by decide)]; rfl) ?_
  refine WL.runs 1 [(3, .int .u32 ((a : Int) / 16777216))] (fun _ => by kernel_rfl) ?_
  refine WL.done rfl ?_
  refine QX.then_normal (hK4 _ _ ?_)
  refine WC.seq (fun K5 hK6 => ?_)
  refine WC.region ?_
  refine WL.runs 3 [(8, .bool (decide (((a : Int) / 16777216) ≥ 1))), (7, .bool (decide (((a : Int) / 16777216) ≥ 1))), (6, .int .u32 ((a : Int) / 16777216))] (fun _ => by kernel_rfl) ?_
  refine WL.test_at 8 (decide (((a : Int) / 16777216) ≥ 1)) rfl (fun t7b => ?_) (fun t7b => ?_)
  · -- ((a : Int) / 16777216) ≥ 1: true
    have t7 : (1 : Int) ≤ ((a : Int) / 16777216) := by have q_ := of_decide_eq_true t7b; omega
    refine WL.runs 4 [(12, .bool (decide (((a : Int) / 16777216) ≤ 223))), (11, .bool (decide (((a : Int) / 16777216) ≤ 223))), (10, .bool (decide (((a : Int) / 16777216) ≤ 223))), (9, .int .u32 ((a : Int) / 16777216))] (fun _ => by kernel_rfl) ?_
    refine WL.test_at 12 (decide (((a : Int) / 16777216) ≤ 223)) rfl (fun t8b => ?_) (fun t8b => ?_)
    · -- ((a : Int) / 16777216) ≤ 223: true
      have t8 : ((a : Int) / 16777216) ≤ 223 := by have q_ := of_decide_eq_true t8b; omega
      refine WL.runs 4 [(16, .bool (((a : Int) / 16777216) != 10)), (15, .bool (((a : Int) / 16777216) != 10)), (14, .bool (((a : Int) / 16777216) != 10)), (13, .int .u32 ((a : Int) / 16777216))] (fun _ => by kernel_rfl) ?_
      refine WL.test_at 16 (((a : Int) / 16777216) != 10) rfl (fun t9b => ?_) (fun t9b => ?_)
      · -- ((a : Int) / 16777216) ≠ 10: true
        have t9 : ((a : Int) / 16777216) ≠ 10 := by simpa using t9b
        refine WL.runs 4 [(2, .bool (((a : Int) / 16777216) != 127)), (19, .bool (((a : Int) / 16777216) != 127)), (18, .bool (((a : Int) / 16777216) != 127)), (17, .int .u32 ((a : Int) / 16777216))] (fun _ => by kernel_rfl) ?_
        refine WL.done rfl ?_
        refine QX.then_normal (hK6 _ _ ?_)
        refine WC.ret ?_
        refine (hret _ _ _ rfl ?_).1
        clear hN hret hret' hK6 hK4 hK2
        exact ⟨by simp [shut, isVip]; grind, hC.fr⟩
      · -- ((a : Int) / 16777216) ≠ 10: false
        have t9 : ((a : Int) / 16777216) = 10 := by simpa using t9b
        refine WL.runs 4 [(2, .bool false), (19, .bool false), (18, undef), (17, undef)] (fun _ => by kernel_rfl) ?_
        refine WL.done rfl ?_
        refine QX.then_normal (hK6 _ _ ?_)
        refine WC.ret ?_
        refine (hret _ _ _ rfl ?_).1
        clear hN hret hret' hK6 hK4 hK2
        exact ⟨by simp [shut, isVip]; grind, hC.fr⟩
    · -- ((a : Int) / 16777216) ≤ 223: false
      have t8 : (223 : Int) < ((a : Int) / 16777216) := by have q_ := of_decide_eq_false t8b; omega
      refine WL.runs 8 [(2, .bool false), (19, .bool false), (18, undef), (17, undef), (16, .bool false), (15, .bool false), (14, undef), (13, undef)] (fun _ => by kernel_rfl) ?_
      refine WL.done rfl ?_
      refine QX.then_normal (hK6 _ _ ?_)
      refine WC.ret ?_
      refine (hret _ _ _ rfl ?_).1
      clear hN hret hret' hK6 hK4 hK2
      exact ⟨by simp [shut, isVip]; grind, hC.fr⟩
  · -- ((a : Int) / 16777216) ≥ 1: false
    have t7 : ((a : Int) / 16777216) < 1 := by have q_ := of_decide_eq_false t7b; omega
    refine WL.runs 12 [(2, .bool false), (19, .bool false), (18, undef), (17, undef), (16, .bool false), (15, .bool false), (14, undef), (13, undef), (12, .bool false), (11, .bool false), (10, undef), (9, undef)] (fun _ => by kernel_rfl) ?_
    refine WL.done rfl ?_
    refine QX.then_normal (hK6 _ _ ?_)
    refine WC.ret ?_
    refine (hret _ _ _ rfl ?_).1
    clear hN hret hret' hK6 hK4 hK2
    exact ⟨by simp [shut, isVip]; grind, hC.fr⟩

structure Cm where
  node : Int
  boot : Int
  seq : Int
  time : Int
  kind : Int
  dip : Int
  vip : Int
  up : Bool
deriving DecidableEq
def cellsC (c : Cm) : List Value := [.int .i64 c.node, .int .i64 c.boot, .int .i64 c.seq, .int .i64 c.time, .int .i64 c.kind, .int .u32 0, .int .i64 0, .int .i64 0, .slice none 0 0, .int .u32 c.dip, .int .u32 c.vip, .bool c.up]
theorem cellsC_len (c : Cm) : (cellsC c).length = 12 := rfl
theorem cellsC_one (c : Cm) : (cellsC c).all Value.oneCell' = true := rfl
def timeOk (x : Int) : Prop := 0 ≤ x ∧ x ≤ 1099511627776
structure okC (c : Cm) : Prop where
  node : 16 ≤ c.node ∧ c.node ≤ 23
  boot : timeOk c.boot
  seq : timeOk c.seq
  time : timeOk c.time
  home : isHome c.dip = true
  dip : 0 ≤ c.dip ∧ c.dip ≤ 4294967295
  vip : c.vip = 0
  kind : c.kind = 3 ∨ c.kind = 4 ∧ c.up = false
def idC (c : Cm) : Int × Int × Int := (c.node, c.boot, c.seq)
def okL (log : List Cm) : Prop := (∀ c ∈ log, okC c) ∧ (log.map idC).Nodup ∧ log.length ≤ 256
theorem okL_nil : okL [] := ⟨by simp, by simp, by simp⟩
theorem okL_one {c : Cm} (h : okC c) : okL [c] := ⟨by simpa using h, by simp, by simp⟩
theorem kind_el {k : Nat} {e : Int} (h : [(0 : Int), 16, 32, 48][k]? = some e) (hk : k ≤ 1) : (k = 0 ∧ e = 0) ∨ (k = 1 ∧ e = 16) := by
  have : k = 0 ∨ k = 1 := by omega
  rcases this with rfl | rfl
  · left; simpa using h.symm
  · right; simpa using h.symm
theorem time_el {a b c : Int} (ha : timeOk a) (hb : timeOk b) (hc : timeOk c) {k : Nat} {e : Int} (h : [a, b, c][k]? = some e) : 0 ≤ e ∧ e ≤ 1099511627776 := by
  have := List.mem_of_getElem? h
  simp at this
  rcases this with rfl | rfl | rfl
  · exact ha
  · exact hb
  · exact hc
def evI (n : Int) : Value := .int .i64 n
def placeN (log : List Cm) (c : Cm) : Int := match log.findIdx? (fun d => idC d == idC c) with
  | some i => (i : Int) + 1
  | none => 0
theorem look_new {m : List ((Int × Int × Int) × Int)} {log : List Cm} {i : Nat} {e : Cm} (hk : m.map (·.1) = (log.take i).map idC) (hn : (log.map idC).Nodup) (he : log[i]? = some e) : lookL m (e.node, e.boot, e.seq) = none := by
  rw [lookL_at, hk]
  obtain ⟨hi, rfl⟩ := List.getElem?_eq_some_iff.1 he
  cases h : keyAt ((log.take i).map idC) (log[i].node, log[i].boot, log[i].seq) with
  | none => rfl
  | some j =>
    exfalso
    have h1 := keyAt_some h
    rw [List.getElem?_map] at h1
    obtain ⟨c, hc, hce⟩ := Option.map_eq_some_iff.1 h1
    rw [List.getElem?_take] at hc
    split at hc
    · rename_i hj
      have h2 := (List.getElem_inj (i := j) (j := i) (h₀ := by rw [List.length_map]; omega) (h₁ := by rw [List.length_map]; omega) hn).1 (by
        simp only [List.getElem_map]
        have : log[j]'(by omega) = c := (List.getElem?_eq_some_iff.1 hc).2
        rw [this, hce]; rfl)
      omega
    · cases hc
theorem ids_snoc {m : List ((Int × Int × Int) × Int)} {log : List Cm} {i : Nat} {e : Cm} (hk : m.map (·.1) = (log.take i).map idC) (he : log[i]? = some e) (v : Int) : (m ++ [((e.node, e.boot, e.seq), v)]).map (·.1) = (log.take (i + 1)).map idC := by
  obtain ⟨hi, rfl⟩ := List.getElem?_eq_some_iff.1 he
  rw [List.take_succ_eq_append_getElem hi, List.map_append, List.map_append, hk]; rfl
theorem place_miss {log : List Cm} {c : Cm} {i : Nat} {e : Cm} (he : log[i]? = some e) (hm : (log.take i).all (fun d => !(idC d == idC c)) = true) (h : (idC e == idC c) = false) : (log.take (i + 1)).all (fun d => !(idC d == idC c)) = true := by
  obtain ⟨hi, rfl⟩ := List.getElem?_eq_some_iff.1 he
  rw [List.take_succ_eq_append_getElem hi, List.all_append, hm]; simp [h]
theorem place_hit {log : List Cm} {c : Cm} {i : Nat} {e : Cm} (he : log[i]? = some e) (hm : (log.take i).all (fun d => !(idC d == idC c)) = true) (h : (idC e == idC c) = true) : placeN log c = (i : Int) + 1 := by
  obtain ⟨hi, rfl⟩ := List.getElem?_eq_some_iff.1 he
  have : log.findIdx? (fun d => idC d == idC c) = some i := by
    rw [List.findIdx?_eq_some_iff_getElem]
    refine ⟨hi, h, fun j hj => ?_⟩
    rw [List.all_eq_true] at hm
    have := hm log[j] (by rw [List.mem_iff_getElem?]; exact ⟨j, by rw [List.getElem?_take, if_pos hj]; exact List.getElem?_eq_getElem (by omega)⟩)
    simpa using this
  unfold placeN; rw [this]
theorem place_none {log : List Cm} {c : Cm} (hm : log.all (fun d => !(idC d == idC c)) = true) : placeN log c = 0 := by
  have : log.findIdx? (fun d => idC d == idC c) = none := by
    rw [List.findIdx?_eq_none_iff]
    intro x hx
    rw [List.all_eq_true] at hm
    simpa using hm x hx
  unfold placeN; rw [this]
theorem take_all {α : Type} {xs : List α} {i : Nat} (h : ¬ i < xs.length) : xs.take i = xs := List.take_of_length_le (by omega)
theorem take_snocC {log : List Cm} {i : Nat} {e : Cm} (he : log[i]? = some e) : log.take (i + 1) = log.take i ++ [e] := by
  obtain ⟨hi, rfl⟩ := List.getElem?_eq_some_iff.1 he
  exact List.take_succ_eq_append_getElem hi
theorem newF_of {w0 w : World} {F0 : List Nat} {M : List (Nat × Obj)} {Fs : List (List Nat)} {F : List Nat} (h : Cx w0 F0 w M Fs) (j : Nat) (hj : Fs[j]? = some F) (_h0 : ∀ x ∈ F0, x < w0.heap.size) (hn : ∀ q ∈ F0, q ∉ F) : ∀ x ∈ F, w0.heap.size ≤ x := fun x hx => by
  rcases h.ownF F (List.mem_of_getElem? hj) x hx with h1 | h1
  · exact absurd hx (hn x h1)
  · exact h1
theorem idC_eq {a b : Cm} : (idC a == idC b) = (decide (a.node = b.node) && (decide (a.boot = b.boot) && decide (a.seq = b.seq))) := by
  rw [Bool.eq_iff_iff]; simp [idC]
theorem look_last {κ β : Type} [DecidableEq κ] : ∀ {m : List (κ × β)} {k : κ}, lookL m k = none → ∀ d : β, lookL (m ++ [(k, d)]) k = some d
  | [], k, _, d => by simp [lookL]
  | (a, b) :: r, k, h, d => by
    unfold lookL at h
    split at h
    · cases h
    · rename_i e; simp only [List.cons_append, lookL, if_neg e]; exact look_last h d
theorem CloneE  (w : World) : Calls Try.prog 39 #[.slice none 0 0] w fun e w' => e = .returned (.slice none 0 0) ∧ Fr w w' [] := by
  refine enterD (n := 8) Try.func39 rfl rfl (Nat.le_of_ble_eq_true rfl) ?_
  intro Q0 hN hret hret'
  have hC := Cx.start w
  refine WC.seq (fun K1 hK2 => ?_)
  refine WC.region ?_
  refine WL.runs 1 [(2, .slice none 0 0)] (fun _ => by kernel_rfl) ?_
  refine WL.done rfl ?_
  refine QX.then_normal (hK2 _ _ ?_)
  refine WC.seq (fun K3 hK4 => ?_)
  refine WC.seq (fun K5 hK6 => ?_)
  refine WC.region ?_
  refine WL.runs 2 [(4, .bool true), (3, .slice none 0 0)] (fun _ => by kernel_rfl) ?_
  refine WL.done rfl ?_
  refine QX.then_normal (hK6 _ _ ?_)
  refine WC.cond_true rfl ?_
  refine WC.seq (fun K7 hK8 => ?_)
  refine WC.region ?_
  refine WL.runs 1 [(2, .slice none 0 0)] (fun _ => by kernel_rfl) ?_
  refine WL.done rfl ?_
  refine QX.then_normal (hK8 _ _ ?_)
  refine WC.ret ?_
  refine QX.then_ret ?_
  refine (hret _ _ _ rfl ?_).1
  clear hN hret hret' hK8 hK6 hK4 hK2
  exact ⟨rfl, hC.fr⟩

theorem EqualE  (w : World) : Calls Try.prog 74 #[.slice none 0 0, .slice none 0 0] w fun e w' => e = .returned (.bool true) ∧ Fr w w' [] := by
  refine enterD (n := 26) Try.func74 rfl rfl (Nat.le_of_ble_eq_true rfl) ?_
  intro Q0 hN hret hret'
  have hC := Cx.start w
  refine WC.seq (fun K1 hK2 => ?_)
  refine WC.region ?_
  refine WL.runs 1 [(4, .bool false)] (fun _ => by kernel_rfl) ?_
  refine WL.done rfl ?_
  refine QX.then_normal (hK2 _ _ ?_)
  refine WC.seq (fun K3 hK4 => ?_)
  refine WC.seq (fun K5 hK6 => ?_)
  refine WC.region ?_
  refine WL.runs 5 [(10, .bool false), (9, .int .i64 0), (8, .slice none 0 0), (7, .int .i64 0), (6, .slice none 0 0)] (fun _ => by kernel_rfl) ?_
  refine WL.done rfl ?_
  refine QX.then_normal (hK6 _ _ ?_)
  refine WC.cond_false rfl ?_
  refine WC.skip ?_
  refine QX.then_normal (hK4 _ _ ?_)
  refine WC.seq (fun K7 hK8 => ?_)
  refine WC.seq (fun K9 hK10 => ?_)
  refine WC.region ?_
  refine WL.runs 3 [(13, .int .i64 0), (12, .int .i64 0), (11, .slice none 0 0)] (fun _ => by kernel_rfl) ?_
  refine WL.done rfl ?_
  refine QX.then_normal (hK10 _ _ ?_)
  refine WC.block ?_
  refine WC.loop (fun m_ E_ w_ => ∃ (k : Nat), m_ = k ∧ E_ = [(0, .slice none 0 0), (1, .slice none 0 0), (6, .slice none 0 0), (7, .int .i64 0), (8, .slice none 0 0), (9, .int .i64 0), (10, .bool false), (11, .slice none 0 0), (12, .int .i64 0), (13, .int .i64 0)] ∧ Cx w [] w_ [] [] ∧ (True)) ⟨_, _, ⟨0, rfl, rfl, hC, trivial⟩, sub_of ⟨rfl, rfl, rfl, rfl, rfl, rfl, rfl, rfl, rfl, rfl, trivial⟩⟩ (fun m14 E_ w15 K11 hK12 hI13 => ?_)
  obtain ⟨k, rfl, rfl, hC16, hinvm14⟩ := hI13
  refine WC.seq (fun K17 hK18 => ?_)
  refine WC.region ?_
  refine WL.runs 1 [(14, .bool false)] (fun _ => by kernel_rfl) ?_
  refine WL.done rfl ?_
  refine QX.then_normal (hK18 _ _ ?_)
  refine WC.seq (fun K19 hK20 => ?_)
  refine WC.cond_false rfl ?_
  refine WC.exit ?_
  refine QX.then_exit ?_
  refine QX.then_exit ?_
  refine QX.block_hit ?_
  refine QX.then_normal (hK8 _ _ ?_)
  refine WC.seq (fun K21 hK22 => ?_)
  refine WC.region ?_
  refine WL.runs 1 [(4, .bool true)] (fun _ => by kernel_rfl) ?_
  refine WL.done rfl ?_
  refine QX.then_normal (hK22 _ _ ?_)
  refine WC.ret ?_
  refine (hret _ _ _ rfl ?_).1
  clear hN hret hret' hK22 hK20 hK18 hK10 hK8 hK6 hK4 hK2
  exact ⟨rfl, hC16.fr⟩

theorem Node_mgr (k p : Int) (w : World) (hk : k = 16) (h0 : 0 ≤ p) (h1 : p < 8) : Calls Try.prog 64 #[.int .i64 k, .int .i64 p] w fun e w' => e = .returned (.tuple #[.int .i64 (k + p), .nilIface]) ∧ Fr w w' [] := by
  refine enterD (n := 25) Try.func64 rfl rfl (Nat.le_of_ble_eq_true rfl) ?_
  intro Q0 hN hret hret'
  have hC := Cx.start w
  refine WC.seq (fun K1 hK2 => ?_)
  refine WC.region ?_
  refine WL.runs 2 [(5, .nilIface), (4, .int .i64 0)] (fun _ => by kernel_rfl) ?_
  refine WL.done rfl ?_
  refine QX.then_normal (hK2 _ _ ?_)
  refine WC.seq (fun K3 hK4 => ?_)
  refine WC.seq (fun K5 hK6 => ?_)
  refine WC.region ?_
  refine WL.runs 1 [(6, .int .i64 k)] (fun _ => by kernel_rfl) ?_
  refine WL.done rfl ?_
  refine QX.then_normal (hK6 _ _ ?_)
  refine WC.block ?_
  refine WC.seq (fun K7 hK8 => ?_)
  refine WC.region ?_
  refine WL.runs 2 [(7, .bool (k == 0)), (8, .bool (k == 0))] (fun _ => by kernel_rfl) ?_
  refine WL.done rfl ?_
  refine QX.then_normal (hK8 _ _ ?_)
  refine WC.know 7 (.bool (k == 0)) (.bool false) rfl (congrArg Value.bool (by simp [hk])) ?_
  refine WC.cond_false rfl ?_
  refine WC.seq (fun K9 hK10 => ?_)
  refine WC.seq (fun K11 hK12 => ?_)
  refine WC.region ?_
  refine WL.runs 2 [(11, .bool (k == 16)), (12, .bool (k == 16))] (fun _ => by kernel_rfl) ?_
  refine WL.done rfl ?_
  refine QX.then_normal (hK12 _ _ ?_)
  refine WC.know 11 (.bool (k == 16)) (.bool true) rfl (congrArg Value.bool (by simp [hk])) ?_
  refine WC.cond_true rfl ?_
  refine WC.skip ?_
  refine QX.then_normal (hK10 _ _ ?_)
  refine WC.cond_true rfl ?_
  refine WC.seq (fun K13 hK14 => ?_)
  refine WC.region ?_
  refine WL.runs 3 [(17, .bool (decide (p ≥ 0))), (16, .bool (decide (p ≥ 0))), (15, .int .i64 p)] (fun _ => by kernel_rfl) ?_
  refine WL.know 17 (.bool (decide (p ≥ 0))) (.bool true) rfl (congrArg Value.bool (by simp; omega)) ?_
  refine WL.runs 3 [(20, .bool (decide (p < 8))), (19, .bool (decide (p < 8))), (18, .int .i64 p)] (fun _ => by kernel_rfl) ?_
  refine WL.done rfl ?_
  refine QX.then_normal (hK14 _ _ ?_)
  refine WC.know 20 (.bool (decide (p < 8))) (.bool true) rfl (congrArg Value.bool (by simp; omega)) ?_
  refine WC.cond_true rfl ?_
  refine WC.seq (fun K15 hK16 => ?_)
  refine WC.region ?_
  refine WL.runs 3 [(23, .int .i64 (IntKind.i64.wrap (k + p))), (22, .int .i64 p), (21, .int .i64 k)] (fun _ => by kernel_rfl) ?_
  refine WL.recast (show (.int .i64 (IntKind.i64.wrap (k + p)) : Value) = .int .i64 (k + p) from by rw [wrap_in_i64 (k + p) (by omega) (by omega)]) ?_
  refine WL.runs 2 [(5, .nilIface), (4, .int .i64 (k + p))] (fun _ => by kernel_rfl) ?_
  refine WL.done rfl ?_
  refine QX.then_normal (hK16 _ _ ?_)
  refine WC.ret ?_
  refine QX.block_ret ?_
  refine QX.then_ret ?_
  refine (hret _ _ _ rfl ?_).1
  clear hN hret hret' hK16 hK14 hK12 hK10 hK8 hK6 hK4 hK2
  exact ⟨rfl, hC.fr⟩

theorem Kind_mgr (node : Int) (w : World) (h0 : 16 ≤ node) (h1 : node ≤ 23) : Calls Try.prog 44 #[.int .i64 node] w fun e w' => e = .returned (.tuple #[.int .i64 16, .int .i64 (node - 16), .bool true]) ∧ Fr w w' [] := by
  refine enterD (n := 37) Try.func44 rfl rfl (Nat.le_of_ble_eq_true rfl) ?_
  intro Q0 hN hret hret'
  have hC := Cx.start w
  refine WC.seq (fun K1 hK2 => ?_)
  refine WC.region ?_
  refine WL.runs 3 [(4, .bool false), (3, .int .i64 0), (2, .int .i64 0)] (fun _ => by kernel_rfl) ?_
  refine WL.done rfl ?_
  refine QX.then_normal (hK2 _ _ ?_)
  refine WC.seq (fun K3 hK4 => ?_)
  refine WC.seq (fun K5 hK6 => ?_)
  refine WC.region ?_
  refine WL.runs 2 [(10, .int .i64 0), (9, .agg #[.int .i64 0, .int .i64 16, .int .i64 32, .int .i64 48])] (fun _ => by kernel_rfl) ?_
  refine WL.done rfl ?_
  refine QX.then_normal (hK6 _ _ ?_)
  refine WC.block ?_
  refine WC.loop (fun m_ E_ w_ => ∃ (k : Nat), m_ = 4 - k ∧ E_ = [(0, .int .i64 node), (9, .agg ([(0 : Int), 16, 32, 48].flatMap (Go.Tw.encI .i64)).toArray), (10, .int .i64 (k : Int))] ∧ Cx w [] w_ [] [] ∧ (k ≤ 1)) ⟨_, _, ⟨0, rfl, rfl, hC, Nat.zero_le _⟩, sub_of ⟨rfl, rfl, rfl, trivial⟩⟩ (fun m10 E_ w11 K7 hK8 hI9 => ?_)
  obtain ⟨k, rfl, rfl, hC12, hk⟩ := hI9
  have hl4_ : ([(0 : Int), 16, 32, 48]).length = 4 := rfl
  refine WC.seq (fun K13 hK14 => ?_)
  refine WC.region ?_
  refine WL.runs 1 [(11, .bool (decide ((k : Int) < 4)))] (fun _ => by kernel_rfl) ?_
  refine WL.done rfl ?_
  refine QX.then_normal (hK14 _ _ ?_)
  refine WC.seq (fun K15 hK16 => ?_)
  refine WC.know 11 (.bool (decide ((k : Int) < 4))) (.bool true) rfl (congrArg Value.bool (by simp; omega)) ?_
  refine WC.cond_true rfl ?_
  refine WC.skip ?_
  refine QX.then_normal (hK16 _ _ ?_)
  refine WC.seq (fun K17 hK18 => ?_)
  refine WC.block ?_
  refine WC.seq (fun K19 hK20 => ?_)
  refine WC.region ?_
  obtain ⟨e21, he22⟩ := get_some (xs := [(0 : Int), 16, 32, 48]) (i := k) (by omega)
  refine WL.indexA (enc := (Go.Tw.encI .i64)) [(0 : Int), 16, 32, 48] 133 4 3 k .i64 (k : Int) e21 (.int .i64 e21) 12 (by kernel_rfl) (by kernel_rfl) (Go.Tw.encI_len _) (by kernel_rfl) (by omega) (by omega) he22 rfl ?_
  have hke_ := kind_el he22 hk
  refine WL.runs 1 [(6, .int .i64 e21)] (fun _ => by kernel_rfl) ?_
  refine WL.done rfl ?_
  refine QX.then_normal (hK20 _ _ ?_)
  refine WC.seq (fun K23 hK24 => ?_)
  refine WC.seq (fun K25 hK26 => ?_)
  refine WC.region ?_
  refine WL.runs 4 [(16, .bool (decide (node < e21))), (15, .bool (decide (node < e21))), (14, .int .i64 e21), (13, .int .i64 node)] (fun _ => by kernel_rfl) ?_
  refine WL.test_at 16 (decide (node < e21)) rfl (fun t27b => ?_) (fun t27b => ?_)
  · -- node < e21: true
    have t27 : node < e21 := by have q_ := of_decide_eq_true t27b; omega
    refine WL.runs 5 [(21, .bool true), (20, undef), (19, undef), (18, undef), (17, undef)] (fun _ => by kernel_rfl) ?_
    refine WL.done rfl ?_
    refine QX.then_normal (hK26 _ _ ?_)
    refine WC.cond_true rfl ?_
    refine WC.exit ?_
    refine QX.then_exit ?_
    refine QX.block_hit ?_
    refine QX.then_normal (hK18 _ _ ?_)
    refine WC.region ?_
    refine WL.runs 1 [(36, .int .i64 (IntKind.i64.wrap ((k : Int) + 1)))] (fun _ => by kernel_rfl) ?_
    refine WL.recast (show (.int .i64 (IntKind.i64.wrap ((k : Int) + 1)) : Value) = .int .i64 ((k : Int) + 1) from by rw [wrap_in_i64 ((k : Int) + 1) (by omega) (by omega)]) ?_
    refine WL.runs 1 [(10, .int .i64 ((k : Int) + 1))] (fun _ => by kernel_rfl) ?_
    refine WL.done rfl ?_
    refine QX.then_normal ?_
    have hC28 := hC12.pick [] [] rfl rfl
    refine fun a_ ha_ => hK8 _ _ _ ?_ ⟨k + 1, rfl, rfl, hC28, by omega⟩ a_ (ha_.weaken (sub_of ⟨rfl, rfl, rfl, trivial⟩))
    omega
  · -- node < e21: false
    have t27 : e21 ≤ node := by have q_ := of_decide_eq_false t27b; omega
    refine WL.runs 3 [(19, .int .i64 (IntKind.i64.wrap (e21 + 8))), (18, .int .i64 e21), (17, .int .i64 node)] (fun _ => by kernel_rfl) ?_
    refine WL.recast (show (.int .i64 (IntKind.i64.wrap (e21 + 8)) : Value) = .int .i64 (e21 + 8) from by rw [wrap_in_i64 (e21 + 8) (by omega) (by omega)]) ?_
    refine WL.runs 2 [(21, .bool (decide (node ≥ (e21 + 8)))), (20, .bool (decide (node ≥ (e21 + 8))))] (fun _ => by kernel_rfl) ?_
    refine WL.done rfl ?_
    refine QX.then_normal (hK26 _ _ ?_)
    refine WC.test_at 21 (decide (node ≥ (e21 + 8))) rfl (fun t29b => ?_) (fun t29b => ?_)
    · -- node ≥ (e21 + 8): true
      have t29 : (e21 + 8) ≤ node := by have q_ := of_decide_eq_true t29b; omega
      refine WC.cond_true rfl ?_
      refine WC.exit ?_
      refine QX.then_exit ?_
      refine QX.block_hit ?_
      refine QX.then_normal (hK18 _ _ ?_)
      refine WC.region ?_
      refine WL.runs 1 [(36, .int .i64 (IntKind.i64.wrap ((k : Int) + 1)))] (fun _ => by kernel_rfl) ?_
      refine WL.recast (show (.int .i64 (IntKind.i64.wrap ((k : Int) + 1)) : Value) = .int .i64 ((k : Int) + 1) from by rw [wrap_in_i64 ((k : Int) + 1) (by omega) (by omega)]) ?_
      refine WL.runs 1 [(10, .int .i64 ((k : Int) + 1))] (fun _ => by kernel_rfl) ?_
      refine WL.done rfl ?_
      refine QX.then_normal ?_
      have hC30 := hC12.pick [] [] rfl rfl
      refine fun a_ ha_ => hK8 _ _ _ ?_ ⟨k + 1, rfl, rfl, hC30, by omega⟩ a_ (ha_.weaken (sub_of ⟨rfl, rfl, rfl, trivial⟩))
      omega
    · -- node ≥ (e21 + 8): false
      have t29 : node < (e21 + 8) := by have q_ := of_decide_eq_false t29b; omega
      refine WC.cond_false rfl ?_
      refine WC.skip ?_
      refine QX.then_normal (hK24 _ _ ?_)
      refine WC.seq (fun K31 hK32 => ?_)
      refine WC.region ?_
      refine WL.runs 4 [(26, .int .i64 (IntKind.i64.wrap (node - e21))), (25, .int .i64 e21), (24, .int .i64 node), (23, .int .i64 e21)] (fun _ => by kernel_rfl) ?_
      refine WL.recast (show (.int .i64 (IntKind.i64.wrap (node - e21)) : Value) = .int .i64 (node - e21) from by rw [wrap_in_i64 (node - e21) (by omega) (by omega)]) ?_
      refine WL.call rfl rfl rfl rfl rfl (by kernel_rfl) (Node_mgr e21 (node - e21) w11 (by omega) (by omega) (by omega)) ?_
      rintro _ w34 ⟨rfl, hF33⟩
      refine ⟨_, rfl, ?_⟩
      have hC35 := hC12.call hF33
      refine WL.runs 5 [(8, .nilIface), (7, .int .i64 (e21 + (node - e21))), (29, .nilIface), (28, .int .i64 (e21 + (node - e21))), (22, .tuple #[.int .i64 (e21 + (node - e21)), .nilIface])] (fun _ => by kernel_rfl) ?_
      refine WL.done rfl ?_
      refine QX.then_normal (hK32 _ _ ?_)
      refine WC.seq (fun K36 hK37 => ?_)
      refine WC.region ?_
      refine WL.runs 2 [(31, .bool true), (30, .nilIface)] (fun _ => by kernel_rfl) ?_
      refine WL.done rfl ?_
      refine QX.then_normal (hK37 _ _ ?_)
      refine WC.cond_true rfl ?_
      refine WC.seq (fun K38 hK39 => ?_)
      refine WC.region ?_
      refine WL.runs 4 [(35, .int .i64 (IntKind.i64.wrap (node - e21))), (34, .int .i64 e21), (33, .int .i64 node), (32, .int .i64 e21)] (fun _ => by kernel_rfl) ?_
      refine WL.recast (show (.int .i64 (IntKind.i64.wrap (node - e21)) : Value) = .int .i64 (node - e21) from by rw [wrap_in_i64 (node - e21) (by omega) (by omega)]) ?_
      refine WL.runs 3 [(4, .bool true), (3, .int .i64 (node - e21)), (2, .int .i64 e21)] (fun _ => by kernel_rfl) ?_
      refine WL.done rfl ?_
      refine QX.then_normal (hK39 _ _ ?_)
      refine WC.ret ?_
      refine QX.block_ret ?_
      refine QX.then_ret ?_
      refine QX.then_ret ?_
      refine QX.block_ret ?_
      refine QX.then_ret ?_
      refine (hret _ _ _ rfl ?_).1
      clear hN hret hret' hK39 hK37 hK32 hK26 hK24 hK20 hK18 hK16 hK14 hK6 hK4 hK2
      have he16_ : e21 = 16 := by omega
      exact ⟨by show Ending.returned (.tuple #[.int .i64 _, .int .i64 _, _]) = _; rw [he16_], hC35.fr⟩

theorem manager_ct (node : Int) (w : World) (h0 : 16 ≤ node) (h1 : node ≤ 23) : Calls Try.prog 29 #[.int .i64 node] w fun e w' => e = .returned (.bool true) ∧ Fr w w' [] := by
  refine enterD (n := 17) Try.func29 rfl rfl (Nat.le_of_ble_eq_true rfl) ?_
  intro Q0 hN hret hret'
  have hC := Cx.start w
  refine WC.seq (fun K1 hK2 => ?_)
  refine WC.region ?_
  refine WL.runs 1 [(2, .bool false)] (fun _ => by kernel_rfl) ?_
  refine WL.done rfl ?_
  refine QX.then_normal (hK2 _ _ ?_)
  refine WC.seq (fun K3 hK4 => ?_)
  refine WC.region ?_
  refine WL.runs 1 [(7, .int .i64 node)] (fun _ => by kernel_rfl) ?_
  refine WL.call rfl rfl rfl rfl rfl (by kernel_rfl) (Kind_mgr node w (by omega) (by omega)) ?_
  rintro _ w6 ⟨rfl, hF5⟩
  refine ⟨_, rfl, ?_⟩
  have hC7 := hC.call hF5
  refine WL.runs 7 [(5, .bool true), (4, .int .i64 (node - 16)), (3, .int .i64 16), (11, .bool true), (10, .int .i64 (node - 16)), (9, .int .i64 16), (6, .tuple #[.int .i64 16, .int .i64 (node - 16), .bool true])] (fun _ => by kernel_rfl) ?_
  refine WL.done rfl ?_
  refine QX.then_normal (hK4 _ _ ?_)
  refine WC.seq (fun K8 hK9 => ?_)
  refine WC.region ?_
  refine WL.runs 6 [(2, .bool true), (16, .bool true), (15, .bool true), (14, .int .i64 16), (13, .bool true), (12, .bool true)] (fun _ => by kernel_rfl) ?_
  refine WL.done rfl ?_
  refine QX.then_normal (hK9 _ _ ?_)
  refine WC.ret ?_
  refine (hret _ _ _ rfl ?_).1
  clear hN hret hret' hK9 hK4 hK2
  exact ⟨rfl, hC7.fr⟩

set_option maxHeartbeats 1000000 in
theorem said3 (c : Cm) (w : World) (h : okC c) (hk : c.kind = 3) : Calls Try.prog 59 #[.agg #[.int .i64 c.node, .int .i64 c.boot, .int .i64 c.seq, .int .i64 c.time, .int .i64 c.kind, .int .u32 0, .int .i64 0, .int .i64 0, .slice none 0 0, .int .u32 c.dip, .int .u32 c.vip, .bool c.up]] w fun e w' => e = .returned (.tuple #[.agg #[.int .i64 c.node, .int .i64 c.boot, .int .i64 c.seq, .int .i64 c.time, .int .i64 c.kind, .int .u32 0, .int .i64 0, .int .i64 0, .slice none 0 0, .int .u32 c.dip, .int .u32 c.vip, .bool c.up], .bool true]) ∧ Fr w w' [] := by
  refine enterD (n := 115) Try.func59 rfl rfl (Nat.le_of_ble_eq_true rfl) ?_
  intro Q0 hN hret hret'
  have hC := Cx.start w
  refine WC.seq (fun K1 hK2 => ?_)
  refine WC.region ?_
  refine WL.newM hC (fun b => .pointer (some ⟨b, 0, none⟩)) (.cells #[.int .i64 c.node, .int .i64 c.boot, .int .i64 c.seq, .int .i64 c.time, .int .i64 c.kind, .int .u32 0, .int .i64 0, .int .i64 0, .slice none 0 0, .int .u32 c.dip, .int .u32 c.vip, .bool c.up] 44) 1 (fun _ => by kernel_rfl) (fun g3 w4 hb7 hF5 hC6 => ?_)
  refine WL.newM hC6 (fun b => .pointer (some ⟨b, 0, none⟩)) (.cells #[.int .i64 0, .int .i64 0, .int .i64 0, .int .i64 0, .int .i64 0, .int .u32 0, .int .i64 0, .int .i64 0, .slice none 0 0, .int .u32 0, .int .u32 0, .bool false] 44) 2 (fun _ => by kernel_rfl) (fun g8 w9 hb12 hF10 hC11 => ?_)
  refine WL.runs 1 [(3, .bool false)] (fun _ => by kernel_rfl) ?_
  refine WL.done rfl ?_
  refine QX.then_normal (hK2 _ _ ?_)
  refine WC.seq (fun K13 hK14 => ?_)
  refine WC.region ?_
  refine WL.runs 1 [(9, .pointer (some ⟨g3, 0, none⟩))] (fun _ => by kernel_rfl) ?_
  refine WL.load 3 (.pointer (some ⟨g3, 0, none⟩)) (.int .i64 c.node) 10 (by kernel_rfl) (run_ld (hC11.get 0 rfl) rfl) ?_
  refine WL.runs 1 [(11, .pointer (some ⟨g3, 1, none⟩))] (fun _ => by kernel_rfl) ?_
  refine WL.load 3 (.pointer (some ⟨g3, 1, none⟩)) (.int .i64 c.boot) 12 (by kernel_rfl) (run_ld (hC11.get 0 rfl) rfl) ?_
  refine WL.runs 1 [(13, .pointer (some ⟨g3, 2, none⟩))] (fun _ => by kernel_rfl) ?_
  refine WL.load 3 (.pointer (some ⟨g3, 2, none⟩)) (.int .i64 c.seq) 14 (by kernel_rfl) (run_ld (hC11.get 0 rfl) rfl) ?_
  refine WL.runs 1 [(15, .pointer (some ⟨g3, 3, none⟩))] (fun _ => by kernel_rfl) ?_
  refine WL.load 3 (.pointer (some ⟨g3, 3, none⟩)) (.int .i64 c.time) 16 (by kernel_rfl) (run_ld (hC11.get 0 rfl) rfl) ?_
  refine WL.runs 1 [(17, .pointer (some ⟨g3, 4, none⟩))] (fun _ => by kernel_rfl) ?_
  refine WL.load 3 (.pointer (some ⟨g3, 4, none⟩)) (.int .i64 c.kind) 18 (by kernel_rfl) (run_ld (hC11.get 0 rfl) rfl) ?_
  refine WL.runs 1 [(19, .agg #[.int .i64 c.node, .int .i64 c.boot, .int .i64 c.seq, .int .i64 c.time, .int .i64 c.kind, .int .u32 0, .int .i64 0, .int .i64 0, .slice none 0 0, .int .u32 0, .int .u32 0, .bool false])] (fun _ => by kernel_rfl) ?_
  refine WL.newM hC11 (fun b => .pointer (some ⟨b, 0, none⟩)) (.cells #[.int .i64 0, .int .i64 0, .int .i64 0, .int .i64 0, .int .i64 0, .int .u32 0, .int .i64 0, .int .i64 0, .slice none 0 0, .int .u32 0, .int .u32 0, .bool false] 44) 4 (fun _ => by kernel_rfl) (fun g15 w16 hb19 hF17 hC18 => ?_)
  refine WL.storeM (c' := #[.int .i64 c.node, .int .i64 c.boot, .int .i64 c.seq, .int .i64 c.time, .int .i64 c.kind, .int .u32 0, .int .i64 0, .int .i64 0, .slice none 0 0, .int .u32 0, .int .u32 0, .bool false]) hC18 2 44 g15 0 (.agg #[.int .i64 c.node, .int .i64 c.boot, .int .i64 c.seq, .int .i64 c.time, .int .i64 c.kind, .int .u32 0, .int .i64 0, .int .i64 0, .slice none 0 0, .int .u32 0, .int .u32 0, .bool false]) (by kernel_rfl) rfl (by kernel_rfl) (fun w20 hF22 hC23 => ?_)
  refine WL.done rfl ?_
  refine QX.then_normal (hK14 _ _ ?_)
  refine WC.seq (fun K24 hK25 => ?_)
  refine WC.region ?_
  refine WL.runs 1 [(21, .pointer (some ⟨g3, 9, none⟩))] (fun _ => by kernel_rfl) ?_
  refine WL.load 39 (.pointer (some ⟨g3, 9, none⟩)) (.int .u32 c.dip) 22 (by kernel_rfl) (run_ld (hC23.get 0 rfl) rfl) ?_
  refine WL.call rfl rfl rfl rfl rfl (by kernel_rfl) (Home_ct c.dip w20 h.dip.1 h.dip.2) ?_
  rintro _ w27 ⟨rfl, hF26⟩
  refine ⟨_, rfl, ?_⟩
  have hC28 := hC23.call hF26
  refine WL.runs 7 [(7, .bool (isHome c.dip)), (6, .int .i64 (homeV c.dip)), (5, .int .i64 (homeN c.dip)), (26, .bool (isHome c.dip)), (25, .int .i64 (homeV c.dip)), (24, .int .i64 (homeN c.dip)), (20, .tuple #[.int .i64 (homeN c.dip), .int .i64 (homeV c.dip), .bool (isHome c.dip)])] (fun _ => by kernel_rfl) ?_
  refine WL.done rfl ?_
  refine QX.then_normal (hK25 _ _ ?_)
  refine WC.seq (fun K29 hK30 => ?_)
  refine WC.region ?_
  refine WL.runs 1 [(27, .pointer (some ⟨g3, 5, none⟩))] (fun _ => by kernel_rfl) ?_
  refine WL.load 42 (.pointer (some ⟨g3, 5, none⟩)) (.agg #[.int .u32 0, .int .i64 0, .int .i64 0, .slice none 0 0]) 28 (by kernel_rfl) (run_ld (hC28.get 0 rfl) rfl) ?_
  refine WL.newM hC28 (fun b => .pointer (some ⟨b, 0, none⟩)) (.cells #[.int .u32 0, .int .i64 0, .int .i64 0, .slice none 0 0] 42) 8 (fun _ => by kernel_rfl) (fun g31 w32 hb35 hF33 hC34 => ?_)
  refine WL.storeM (c' := #[.int .u32 0, .int .i64 0, .int .i64 0, .slice none 0 0]) hC34 3 42 g31 0 (.agg #[.int .u32 0, .int .i64 0, .int .i64 0, .slice none 0 0]) (by kernel_rfl) rfl (by kernel_rfl) (fun w36 hF38 hC39 => ?_)
  refine WL.done rfl ?_
  refine QX.then_normal (hK30 _ _ ?_)
  refine WC.seq (fun K40 hK41 => ?_)
  refine WC.seq (fun K42 hK43 => ?_)
  refine WC.region ?_
  refine WL.runs 1 [(29, .pointer (some ⟨g3, 4, none⟩))] (fun _ => by kernel_rfl) ?_
  refine WL.load 3 (.pointer (some ⟨g3, 4, none⟩)) (.int .i64 c.kind) 30 (by kernel_rfl) (run_ld (hC39.get 0 rfl) rfl) ?_
  refine WL.done rfl ?_
  refine QX.then_normal (hK43 _ _ ?_)
  refine WC.block ?_
  refine WC.seq (fun K44 hK45 => ?_)
  refine WC.region ?_
  refine WL.runs 2 [(31, .bool (c.kind == 1)), (32, .bool (c.kind == 1))] (fun _ => by kernel_rfl) ?_
  refine WL.done rfl ?_
  refine QX.then_normal (hK45 _ _ ?_)
  refine WC.know 31 (.bool (c.kind == 1)) (.bool false) rfl (congrArg Value.bool (by simp [hk])) ?_
  refine WC.cond_false rfl ?_
  refine WC.seq (fun K46 hK47 => ?_)
  refine WC.region ?_
  refine WL.runs 2 [(65, .bool (c.kind == 2)), (66, .bool (c.kind == 2))] (fun _ => by kernel_rfl) ?_
  refine WL.done rfl ?_
  refine QX.then_normal (hK47 _ _ ?_)
  refine WC.know 65 (.bool (c.kind == 2)) (.bool false) rfl (congrArg Value.bool (by simp [hk])) ?_
  refine WC.cond_false rfl ?_
  refine WC.seq (fun K48 hK49 => ?_)
  refine WC.region ?_
  refine WL.runs 2 [(97, .bool (c.kind == 3)), (98, .bool (c.kind == 3))] (fun _ => by kernel_rfl) ?_
  refine WL.done rfl ?_
  refine QX.then_normal (hK49 _ _ ?_)
  refine WC.know 97 (.bool (c.kind == 3)) (.bool true) rfl (congrArg Value.bool (by simp [hk])) ?_
  refine WC.cond_true rfl ?_
  refine WC.seq (fun K50 hK51 => ?_)
  refine WC.drawC hC39 [g15] (by kernel_rfl) (fun w52 hF53 hC54 hS55 => ?_)
  refine WD.pure (NoPanic.then (NoPanic.block (NoPanic.then hN))) 0 99 (.pointer (some ⟨g3, 9, none⟩)) (by kernel_rfl) (fun _ => by kernel_rfl) hS55 ?_
  refine WD.pure (NoPanic.then (NoPanic.block (NoPanic.then hN))) 2 101 (.pointer (some ⟨g3, 11, none⟩)) (by kernel_rfl) (fun _ => by kernel_rfl) hS55 ?_
  refine WD.load (NoPanic.then (NoPanic.block (NoPanic.then hN))) 1 39 (.pointer (some ⟨g3, 9, none⟩)) (.int .u32 c.dip) 100 (by kernel_rfl) (by kernel_rfl) (fun _ hS_ => run_ld (Fr.has hS_ (hC54.get 0 rfl) (by simpa using hC54.ne 0 2 rfl rfl (by decide))) rfl) hS55 ?_
  refine WD.pure (NoPanic.then (NoPanic.block (NoPanic.then hN))) 4 103 (.pointer (some ⟨g15, 9, none⟩)) (by kernel_rfl) (fun _ => by kernel_rfl) hS55 ?_
  refine WD.load (NoPanic.then (NoPanic.block (NoPanic.then hN))) 3 4 (.pointer (some ⟨g3, 11, none⟩)) (.bool c.up) 102 (by kernel_rfl) (by kernel_rfl) (fun _ hS_ => run_ld (Fr.has hS_ (hC54.get 0 rfl) (by simpa using hC54.ne 0 2 rfl rfl (by decide))) rfl) hS55 ?_
  obtain ⟨w56, hr57, hF58, hC59⟩ := sto_run (c' := #[.int .i64 c.node, .int .i64 c.boot, .int .i64 c.seq, .int .i64 c.time, .int .i64 c.kind, .int .u32 0, .int .i64 0, .int .i64 0, .slice none 0 0, .int .u32 c.dip, .int .u32 0, .bool false]) Try.prog hC54 2 39 g15 9 (.int .u32 c.dip) rfl (by kernel_rfl)
  have hS60 := hS55.trans hF58 (by first | (simp; done) | (simp [*]; done) | (have q_ := hS55.size; simp; omega))
  refine WD.semU 5 (Instr.storeAt 39 (.pointer (some ⟨g15, 9, none⟩)) (.int .u32 c.dip)) (by kernel_rfl) (by kernel_rfl) hr57 hS60 ?_
  refine WD.pure (NoPanic.then (NoPanic.block (NoPanic.then hN))) 6 104 (.pointer (some ⟨g15, 11, none⟩)) (by kernel_rfl) (fun _ => by kernel_rfl) hS60 ?_
  obtain ⟨w61, hr62, hF63, hC64⟩ := sto_run (c' := #[.int .i64 c.node, .int .i64 c.boot, .int .i64 c.seq, .int .i64 c.time, .int .i64 c.kind, .int .u32 0, .int .i64 0, .int .i64 0, .slice none 0 0, .int .u32 c.dip, .int .u32 0, .bool c.up]) Try.prog hC59 2 4 g15 11 (.bool c.up) rfl (by kernel_rfl)
  have hS65 := hS60.trans hF63 (by first | (simp; done) | (simp [*]; done) | (have q_ := hS60.size; simp; omega))
  refine WD.semU 7 (Instr.storeAt 4 (.pointer (some ⟨g15, 11, none⟩)) (.bool c.up)) (by kernel_rfl) (by kernel_rfl) hr62 hS65 ?_
  refine WD.done (by kernel_rfl) ?_
  refine QX.then_normal (hK51 _ _ ?_)
  refine WC.seq (fun K66 hK67 => ?_)
  refine WC.region ?_
  refine WL.load 44 (.pointer (some ⟨g15, 0, none⟩)) (.agg #[.int .i64 c.node, .int .i64 c.boot, .int .i64 c.seq, .int .i64 c.time, .int .i64 c.kind, .int .u32 0, .int .i64 0, .int .i64 0, .slice none 0 0, .int .u32 c.dip, .int .u32 0, .bool c.up]) 105 (by kernel_rfl) (run_ld (hC64.get 2 rfl) rfl) ?_
  refine WL.runs 1 [(106, .bool (isHome c.dip))] (fun _ => by kernel_rfl) ?_
  refine WL.storeM (c' := #[.int .i64 c.node, .int .i64 c.boot, .int .i64 c.seq, .int .i64 c.time, .int .i64 c.kind, .int .u32 0, .int .i64 0, .int .i64 0, .slice none 0 0, .int .u32 c.dip, .int .u32 0, .bool c.up]) hC64 1 44 g8 0 (.agg #[.int .i64 c.node, .int .i64 c.boot, .int .i64 c.seq, .int .i64 c.time, .int .i64 c.kind, .int .u32 0, .int .i64 0, .int .i64 0, .slice none 0 0, .int .u32 c.dip, .int .u32 0, .bool c.up]) (by kernel_rfl) rfl (by kernel_rfl) (fun w68 hF70 hC71 => ?_)
  refine WL.runs 1 [(3, .bool (isHome c.dip))] (fun _ => by kernel_rfl) ?_
  refine WL.done rfl ?_
  refine QX.then_normal (hK67 _ _ ?_)
  refine WC.ret ?_
  refine QX.block_ret ?_
  refine QX.then_ret ?_
  refine (hret' _ _ (.tuple #[.agg #[.int .i64 c.node, .int .i64 c.boot, .int .i64 c.seq, .int .i64 c.time, .int .i64 c.kind, .int .u32 0, .int .i64 0, .int .i64 0, .slice none 0 0, .int .u32 c.dip, .int .u32 0, .bool c.up], .bool (isHome c.dip)]) (fun a ha => ?_) ?_).1
  · exact res_run ha ((ResR.cell rfl (run_ld (hC71.get 1 rfl) rfl) (ResR.tmp rfl ResR.nil))) rfl
  clear hN hret hret' hK67 hK51 hK49 hK47 hK45 hK43 hK41 hK30 hK25 hK14 hK2
  exact ⟨by show Ending.returned (.tuple #[.agg #[_, _, _, _, _, _, _, _, _, _, _, _], _]) = _; rw [h.home, h.vip], hC71.fr⟩

set_option maxHeartbeats 1000000 in
theorem said4 (c : Cm) (w : World) (h : okC c) (hk : c.kind = 4) (hu : c.up = false) : Calls Try.prog 59 #[.agg #[.int .i64 c.node, .int .i64 c.boot, .int .i64 c.seq, .int .i64 c.time, .int .i64 c.kind, .int .u32 0, .int .i64 0, .int .i64 0, .slice none 0 0, .int .u32 c.dip, .int .u32 c.vip, .bool c.up]] w fun e w' => e = .returned (.tuple #[.agg #[.int .i64 c.node, .int .i64 c.boot, .int .i64 c.seq, .int .i64 c.time, .int .i64 c.kind, .int .u32 0, .int .i64 0, .int .i64 0, .slice none 0 0, .int .u32 c.dip, .int .u32 c.vip, .bool c.up], .bool true]) ∧ Fr w w' [] := by
  refine enterD (n := 115) Try.func59 rfl rfl (Nat.le_of_ble_eq_true rfl) ?_
  intro Q0 hN hret hret'
  have hC := Cx.start w
  refine WC.seq (fun K1 hK2 => ?_)
  refine WC.region ?_
  refine WL.newM hC (fun b => .pointer (some ⟨b, 0, none⟩)) (.cells #[.int .i64 c.node, .int .i64 c.boot, .int .i64 c.seq, .int .i64 c.time, .int .i64 c.kind, .int .u32 0, .int .i64 0, .int .i64 0, .slice none 0 0, .int .u32 c.dip, .int .u32 c.vip, .bool c.up] 44) 1 (fun _ => by kernel_rfl) (fun g3 w4 hb7 hF5 hC6 => ?_)
  refine WL.newM hC6 (fun b => .pointer (some ⟨b, 0, none⟩)) (.cells #[.int .i64 0, .int .i64 0, .int .i64 0, .int .i64 0, .int .i64 0, .int .u32 0, .int .i64 0, .int .i64 0, .slice none 0 0, .int .u32 0, .int .u32 0, .bool false] 44) 2 (fun _ => by kernel_rfl) (fun g8 w9 hb12 hF10 hC11 => ?_)
  refine WL.runs 1 [(3, .bool false)] (fun _ => by kernel_rfl) ?_
  refine WL.done rfl ?_
  refine QX.then_normal (hK2 _ _ ?_)
  refine WC.seq (fun K13 hK14 => ?_)
  refine WC.region ?_
  refine WL.runs 1 [(9, .pointer (some ⟨g3, 0, none⟩))] (fun _ => by kernel_rfl) ?_
  refine WL.load 3 (.pointer (some ⟨g3, 0, none⟩)) (.int .i64 c.node) 10 (by kernel_rfl) (run_ld (hC11.get 0 rfl) rfl) ?_
  refine WL.runs 1 [(11, .pointer (some ⟨g3, 1, none⟩))] (fun _ => by kernel_rfl) ?_
  refine WL.load 3 (.pointer (some ⟨g3, 1, none⟩)) (.int .i64 c.boot) 12 (by kernel_rfl) (run_ld (hC11.get 0 rfl) rfl) ?_
  refine WL.runs 1 [(13, .pointer (some ⟨g3, 2, none⟩))] (fun _ => by kernel_rfl) ?_
  refine WL.load 3 (.pointer (some ⟨g3, 2, none⟩)) (.int .i64 c.seq) 14 (by kernel_rfl) (run_ld (hC11.get 0 rfl) rfl) ?_
  refine WL.runs 1 [(15, .pointer (some ⟨g3, 3, none⟩))] (fun _ => by kernel_rfl) ?_
  refine WL.load 3 (.pointer (some ⟨g3, 3, none⟩)) (.int .i64 c.time) 16 (by kernel_rfl) (run_ld (hC11.get 0 rfl) rfl) ?_
  refine WL.runs 1 [(17, .pointer (some ⟨g3, 4, none⟩))] (fun _ => by kernel_rfl) ?_
  refine WL.load 3 (.pointer (some ⟨g3, 4, none⟩)) (.int .i64 c.kind) 18 (by kernel_rfl) (run_ld (hC11.get 0 rfl) rfl) ?_
  refine WL.runs 1 [(19, .agg #[.int .i64 c.node, .int .i64 c.boot, .int .i64 c.seq, .int .i64 c.time, .int .i64 c.kind, .int .u32 0, .int .i64 0, .int .i64 0, .slice none 0 0, .int .u32 0, .int .u32 0, .bool false])] (fun _ => by kernel_rfl) ?_
  refine WL.newM hC11 (fun b => .pointer (some ⟨b, 0, none⟩)) (.cells #[.int .i64 0, .int .i64 0, .int .i64 0, .int .i64 0, .int .i64 0, .int .u32 0, .int .i64 0, .int .i64 0, .slice none 0 0, .int .u32 0, .int .u32 0, .bool false] 44) 4 (fun _ => by kernel_rfl) (fun g15 w16 hb19 hF17 hC18 => ?_)
  refine WL.storeM (c' := #[.int .i64 c.node, .int .i64 c.boot, .int .i64 c.seq, .int .i64 c.time, .int .i64 c.kind, .int .u32 0, .int .i64 0, .int .i64 0, .slice none 0 0, .int .u32 0, .int .u32 0, .bool false]) hC18 2 44 g15 0 (.agg #[.int .i64 c.node, .int .i64 c.boot, .int .i64 c.seq, .int .i64 c.time, .int .i64 c.kind, .int .u32 0, .int .i64 0, .int .i64 0, .slice none 0 0, .int .u32 0, .int .u32 0, .bool false]) (by kernel_rfl) rfl (by kernel_rfl) (fun w20 hF22 hC23 => ?_)
  refine WL.done rfl ?_
  refine QX.then_normal (hK14 _ _ ?_)
  refine WC.seq (fun K24 hK25 => ?_)
  refine WC.region ?_
  refine WL.runs 1 [(21, .pointer (some ⟨g3, 9, none⟩))] (fun _ => by kernel_rfl) ?_
  refine WL.load 39 (.pointer (some ⟨g3, 9, none⟩)) (.int .u32 c.dip) 22 (by kernel_rfl) (run_ld (hC23.get 0 rfl) rfl) ?_
  refine WL.call rfl rfl rfl rfl rfl (by kernel_rfl) (Home_ct c.dip w20 h.dip.1 h.dip.2) ?_
  rintro _ w27 ⟨rfl, hF26⟩
  refine ⟨_, rfl, ?_⟩
  have hC28 := hC23.call hF26
  refine WL.runs 7 [(7, .bool (isHome c.dip)), (6, .int .i64 (homeV c.dip)), (5, .int .i64 (homeN c.dip)), (26, .bool (isHome c.dip)), (25, .int .i64 (homeV c.dip)), (24, .int .i64 (homeN c.dip)), (20, .tuple #[.int .i64 (homeN c.dip), .int .i64 (homeV c.dip), .bool (isHome c.dip)])] (fun _ => by kernel_rfl) ?_
  refine WL.done rfl ?_
  refine QX.then_normal (hK25 _ _ ?_)
  refine WC.seq (fun K29 hK30 => ?_)
  refine WC.region ?_
  refine WL.runs 1 [(27, .pointer (some ⟨g3, 5, none⟩))] (fun _ => by kernel_rfl) ?_
  refine WL.load 42 (.pointer (some ⟨g3, 5, none⟩)) (.agg #[.int .u32 0, .int .i64 0, .int .i64 0, .slice none 0 0]) 28 (by kernel_rfl) (run_ld (hC28.get 0 rfl) rfl) ?_
  refine WL.newM hC28 (fun b => .pointer (some ⟨b, 0, none⟩)) (.cells #[.int .u32 0, .int .i64 0, .int .i64 0, .slice none 0 0] 42) 8 (fun _ => by kernel_rfl) (fun g31 w32 hb35 hF33 hC34 => ?_)
  refine WL.storeM (c' := #[.int .u32 0, .int .i64 0, .int .i64 0, .slice none 0 0]) hC34 3 42 g31 0 (.agg #[.int .u32 0, .int .i64 0, .int .i64 0, .slice none 0 0]) (by kernel_rfl) rfl (by kernel_rfl) (fun w36 hF38 hC39 => ?_)
  refine WL.done rfl ?_
  refine QX.then_normal (hK30 _ _ ?_)
  refine WC.seq (fun K40 hK41 => ?_)
  refine WC.seq (fun K42 hK43 => ?_)
  refine WC.region ?_
  refine WL.runs 1 [(29, .pointer (some ⟨g3, 4, none⟩))] (fun _ => by kernel_rfl) ?_
  refine WL.load 3 (.pointer (some ⟨g3, 4, none⟩)) (.int .i64 c.kind) 30 (by kernel_rfl) (run_ld (hC39.get 0 rfl) rfl) ?_
  refine WL.done rfl ?_
  refine QX.then_normal (hK43 _ _ ?_)
  refine WC.block ?_
  refine WC.seq (fun K44 hK45 => ?_)
  refine WC.region ?_
  refine WL.runs 2 [(31, .bool (c.kind == 1)), (32, .bool (c.kind == 1))] (fun _ => by kernel_rfl) ?_
  refine WL.done rfl ?_
  refine QX.then_normal (hK45 _ _ ?_)
  refine WC.know 31 (.bool (c.kind == 1)) (.bool false) rfl (congrArg Value.bool (by simp [hk])) ?_
  refine WC.cond_false rfl ?_
  refine WC.seq (fun K46 hK47 => ?_)
  refine WC.region ?_
  refine WL.runs 2 [(65, .bool (c.kind == 2)), (66, .bool (c.kind == 2))] (fun _ => by kernel_rfl) ?_
  refine WL.done rfl ?_
  refine QX.then_normal (hK47 _ _ ?_)
  refine WC.know 65 (.bool (c.kind == 2)) (.bool false) rfl (congrArg Value.bool (by simp [hk])) ?_
  refine WC.cond_false rfl ?_
  refine WC.seq (fun K48 hK49 => ?_)
  refine WC.region ?_
  refine WL.runs 2 [(97, .bool (c.kind == 3)), (98, .bool (c.kind == 3))] (fun _ => by kernel_rfl) ?_
  refine WL.done rfl ?_
  refine QX.then_normal (hK49 _ _ ?_)
  refine WC.know 97 (.bool (c.kind == 3)) (.bool false) rfl (congrArg Value.bool (by simp [hk])) ?_
  refine WC.cond_false rfl ?_
  refine WC.seq (fun K50 hK51 => ?_)
  refine WC.region ?_
  refine WL.runs 2 [(107, .bool (c.kind == 4)), (108, .bool (c.kind == 4))] (fun _ => by kernel_rfl) ?_
  refine WL.done rfl ?_
  refine QX.then_normal (hK51 _ _ ?_)
  refine WC.know 107 (.bool (c.kind == 4)) (.bool true) rfl (congrArg Value.bool (by simp [hk])) ?_
  refine WC.cond_true rfl ?_
  refine WC.seq (fun K52 hK53 => ?_)
  refine WC.region ?_
  refine WL.runs 1 [(109, .pointer (some ⟨g3, 9, none⟩))] (fun _ => by kernel_rfl) ?_
  refine WL.load 39 (.pointer (some ⟨g3, 9, none⟩)) (.int .u32 c.dip) 110 (by kernel_rfl) (run_ld (hC39.get 0 rfl) rfl) ?_
  refine WL.runs 1 [(111, .pointer (some ⟨g15, 9, none⟩))] (fun _ => by kernel_rfl) ?_
  refine WL.storeM (c' := #[.int .i64 c.node, .int .i64 c.boot, .int .i64 c.seq, .int .i64 c.time, .int .i64 c.kind, .int .u32 0, .int .i64 0, .int .i64 0, .slice none 0 0, .int .u32 c.dip, .int .u32 0, .bool false]) hC39 2 39 g15 9 (.int .u32 c.dip) (by kernel_rfl) rfl (by kernel_rfl) (fun w54 hF56 hC57 => ?_)
  refine WL.done rfl ?_
  refine QX.then_normal (hK53 _ _ ?_)
  refine WC.seq (fun K58 hK59 => ?_)
  refine WC.region ?_
  refine WL.load 44 (.pointer (some ⟨g15, 0, none⟩)) (.agg #[.int .i64 c.node, .int .i64 c.boot, .int .i64 c.seq, .int .i64 c.time, .int .i64 c.kind, .int .u32 0, .int .i64 0, .int .i64 0, .slice none 0 0, .int .u32 c.dip, .int .u32 0, .bool false]) 112 (by kernel_rfl) (run_ld (hC57.get 2 rfl) rfl) ?_
  refine WL.runs 1 [(113, .bool (isHome c.dip))] (fun _ => by kernel_rfl) ?_
  refine WL.storeM (c' := #[.int .i64 c.node, .int .i64 c.boot, .int .i64 c.seq, .int .i64 c.time, .int .i64 c.kind, .int .u32 0, .int .i64 0, .int .i64 0, .slice none 0 0, .int .u32 c.dip, .int .u32 0, .bool false]) hC57 1 44 g8 0 (.agg #[.int .i64 c.node, .int .i64 c.boot, .int .i64 c.seq, .int .i64 c.time, .int .i64 c.kind, .int .u32 0, .int .i64 0, .int .i64 0, .slice none 0 0, .int .u32 c.dip, .int .u32 0, .bool false]) (by kernel_rfl) rfl (by kernel_rfl) (fun w60 hF62 hC63 => ?_)
  refine WL.runs 1 [(3, .bool (isHome c.dip))] (fun _ => by kernel_rfl) ?_
  refine WL.done rfl ?_
  refine QX.then_normal (hK59 _ _ ?_)
  refine WC.ret ?_
  refine QX.block_ret ?_
  refine QX.then_ret ?_
  refine (hret' _ _ (.tuple #[.agg #[.int .i64 c.node, .int .i64 c.boot, .int .i64 c.seq, .int .i64 c.time, .int .i64 c.kind, .int .u32 0, .int .i64 0, .int .i64 0, .slice none 0 0, .int .u32 c.dip, .int .u32 0, .bool false], .bool (isHome c.dip)]) (fun a ha => ?_) ?_).1
  · exact res_run ha ((ResR.cell rfl (run_ld (hC63.get 1 rfl) rfl) (ResR.tmp rfl ResR.nil))) rfl
  clear hN hret hret' hK59 hK53 hK51 hK49 hK47 hK45 hK43 hK41 hK30 hK25 hK14 hK2
  exact ⟨by show Ending.returned (.tuple #[.agg #[_, _, _, _, _, _, _, _, _, _, _, _], _]) = _; rw [h.home, h.vip, hu], hC63.fr⟩

theorem said_ct (c : Cm) (w : World) (h : okC c) : Calls Try.prog 59 #[.agg #[.int .i64 c.node, .int .i64 c.boot, .int .i64 c.seq, .int .i64 c.time, .int .i64 c.kind, .int .u32 0, .int .i64 0, .int .i64 0, .slice none 0 0, .int .u32 c.dip, .int .u32 c.vip, .bool c.up]] w fun e w' => e = .returned (.tuple #[.agg #[.int .i64 c.node, .int .i64 c.boot, .int .i64 c.seq, .int .i64 c.time, .int .i64 c.kind, .int .u32 0, .int .i64 0, .int .i64 0, .slice none 0 0, .int .u32 c.dip, .int .u32 c.vip, .bool c.up], .bool true]) ∧ Fr w w' [] := by
  rcases h.kind with hk | ⟨hk, hu⟩
  · exact said3 c w h hk
  · exact said4 c w h hk hu
set_option maxHeartbeats 1000000 in
theorem like_self (c : Cm) (w : World) : Calls Try.prog 60 #[.agg #[.int .i64 c.node, .int .i64 c.boot, .int .i64 c.seq, .int .i64 c.time, .int .i64 c.kind, .int .u32 0, .int .i64 0, .int .i64 0, .slice none 0 0, .int .u32 c.dip, .int .u32 c.vip, .bool c.up], .agg #[.int .i64 c.node, .int .i64 c.boot, .int .i64 c.seq, .int .i64 c.time, .int .i64 c.kind, .int .u32 0, .int .i64 0, .int .i64 0, .slice none 0 0, .int .u32 c.dip, .int .u32 c.vip, .bool c.up]] w fun e w' => e = .returned (.bool true) ∧ Fr w w' [] := by
  refine enterD (n := 93) Try.func60 rfl rfl (Nat.le_of_ble_eq_true rfl) ?_
  intro Q0 hN hret hret'
  have hC := Cx.start w
  refine WC.seq (fun K1 hK2 => ?_)
  refine WC.region ?_
  refine WL.newM hC (fun b => .pointer (some ⟨b, 0, none⟩)) (.cells #[.int .i64 c.node, .int .i64 c.boot, .int .i64 c.seq, .int .i64 c.time, .int .i64 c.kind, .int .u32 0, .int .i64 0, .int .i64 0, .slice none 0 0, .int .u32 c.dip, .int .u32 c.vip, .bool c.up] 44) 2 (fun _ => by kernel_rfl) (fun g3 w4 hb7 hF5 hC6 => ?_)
  refine WL.newM hC6 (fun b => .pointer (some ⟨b, 0, none⟩)) (.cells #[.int .i64 c.node, .int .i64 c.boot, .int .i64 c.seq, .int .i64 c.time, .int .i64 c.kind, .int .u32 0, .int .i64 0, .int .i64 0, .slice none 0 0, .int .u32 c.dip, .int .u32 c.vip, .bool c.up] 44) 3 (fun _ => by kernel_rfl) (fun g8 w9 hb12 hF10 hC11 => ?_)
  refine WL.runs 1 [(4, .bool false)] (fun _ => by kernel_rfl) ?_
  refine WL.done rfl ?_
  refine QX.then_normal (hK2 _ _ ?_)
  refine WC.seq (fun K13 hK14 => ?_)
  refine WC.drawC hC11 [] (by kernel_rfl) (fun w15 hF16 hC17 hS18 => ?_)
  refine WD.pure (NoPanic.then hN) 0 7 (.pointer (some ⟨g3, 5, none⟩)) (by kernel_rfl) (fun _ => by kernel_rfl) hS18 ?_
  refine WD.pure (NoPanic.then hN) 2 9 (.pointer (some ⟨g8, 5, none⟩)) (by kernel_rfl) (fun _ => by kernel_rfl) hS18 ?_
  refine WD.load (NoPanic.then hN) 1 42 (.pointer (some ⟨g3, 5, none⟩)) (.agg #[.int .u32 0, .int .i64 0, .int .i64 0, .slice none 0 0]) 8 (by kernel_rfl) (by kernel_rfl) (fun _ hS_ => run_ld (Fr.has hS_ (hC17.get 0 rfl) (by simp)) rfl) hS18 ?_
  refine WD.load (NoPanic.then hN) 3 42 (.pointer (some ⟨g8, 5, none⟩)) (.agg #[.int .u32 0, .int .i64 0, .int .i64 0, .slice none 0 0]) 10 (by kernel_rfl) (by kernel_rfl) (fun _ hS_ => run_ld (Fr.has hS_ (hC17.get 1 rfl) (by simp)) rfl) hS18 ?_
  refine WD.all2 4 5 (by kernel_rfl) ?_ ?_
  · -- operation 4 comes first
    refine WO.new 4 (fun b => .pointer (some ⟨b, 0, none⟩)) (.cells #[.int .u32 0, .int .i64 0, .int .i64 0, .slice none 0 0] 42) (by kernel_rfl) rfl rfl rfl rfl rfl (fun _ => by kernel_rfl) (fun g19 w20 hb23 hl24 hF21 ho25 => ?_)
    have hC22 := hC17.callB hF21 hb23 ho25
    have hS26 := hS18.trans hF21 (by simp)
    refine ⟨hS26, ?_⟩
    refine WD.new 5 (fun b => .pointer (some ⟨b, 0, none⟩)) (.cells #[.int .u32 0, .int .i64 0, .int .i64 0, .slice none 0 0] 42) (by kernel_rfl) rfl rfl rfl rfl rfl (fun _ => by kernel_rfl) (fun g27 w28 hb31 hl32 hF29 ho33 => ?_)
    have hC30 := hC22.callB hF29 hb31 ho33
    have hS34 := hS26.trans hF29 (by simp)
    refine ⟨hS34, ?_⟩
    obtain ⟨w35, hr36, hF37, hC38⟩ := sto_run (c' := #[.int .u32 0, .int .i64 0, .int .i64 0, .slice none 0 0]) Try.prog hC30 2 42 g19 0 (.agg #[.int .u32 0, .int .i64 0, .int .i64 0, .slice none 0 0]) rfl (by kernel_rfl)
    have hS39 := hS34.trans hF37 (by first | (simp; done) | (simp [*]; done) | (have q_ := hS34.size; simp; omega))
    refine WD.semU 6 (Instr.storeAt 42 (.pointer (some ⟨g19, 0, none⟩)) (.agg #[.int .u32 0, .int .i64 0, .int .i64 0, .slice none 0 0])) (by kernel_rfl) (by kernel_rfl) hr36 hS39 ?_
    obtain ⟨w40, hr41, hF42, hC43⟩ := sto_run (c' := #[.int .u32 0, .int .i64 0, .int .i64 0, .slice none 0 0]) Try.prog hC38 3 42 g27 0 (.agg #[.int .u32 0, .int .i64 0, .int .i64 0, .slice none 0 0]) rfl (by kernel_rfl)
    have hS44 := hS39.trans hF42 (by first | (simp; done) | (simp [*]; done) | (have q_ := hS39.size; simp; omega))
    refine WD.semU 7 (Instr.storeAt 42 (.pointer (some ⟨g27, 0, none⟩)) (.agg #[.int .u32 0, .int .i64 0, .int .i64 0, .slice none 0 0])) (by kernel_rfl) (by kernel_rfl) hr41 hS44 ?_
    refine WD.done (by kernel_rfl) ?_
    refine QX.then_normal (hK14 _ _ ?_)
    refine WC.seq (fun K45 hK46 => ?_)
    refine WC.region ?_
    refine WL.runs 1 [(11, .pointer (some ⟨g3, 0, none⟩))] (fun _ => by kernel_rfl) ?_
    refine WL.load 3 (.pointer (some ⟨g3, 0, none⟩)) (.int .i64 c.node) 12 (by kernel_rfl) (run_ld (hC43.get 0 rfl) rfl) ?_
    refine WL.runs 1 [(13, .pointer (some ⟨g8, 0, none⟩))] (fun _ => by kernel_rfl) ?_
    refine WL.load 3 (.pointer (some ⟨g8, 0, none⟩)) (.int .i64 c.node) 14 (by kernel_rfl) (run_ld (hC43.get 1 rfl) rfl) ?_
    refine WL.runs 2 [(16, .bool (c.node == c.node)), (15, .bool (c.node == c.node))] (fun _ => by kernel_rfl) ?_
    refine WL.know 16 (.bool (c.node == c.node)) (.bool true) rfl (congrArg Value.bool (by simp)) ?_
    refine WL.runs 1 [(17, .pointer (some ⟨g3, 1, none⟩))] (fun _ => by kernel_rfl) ?_
    refine WL.load 3 (.pointer (some ⟨g3, 1, none⟩)) (.int .i64 c.boot) 18 (by kernel_rfl) (run_ld (hC43.get 0 rfl) rfl) ?_
    refine WL.runs 1 [(19, .pointer (some ⟨g8, 1, none⟩))] (fun _ => by kernel_rfl) ?_
    refine WL.load 3 (.pointer (some ⟨g8, 1, none⟩)) (.int .i64 c.boot) 20 (by kernel_rfl) (run_ld (hC43.get 1 rfl) rfl) ?_
    refine WL.runs 3 [(23, .bool (c.boot == c.boot)), (22, .bool (c.boot == c.boot)), (21, .bool (c.boot == c.boot))] (fun _ => by kernel_rfl) ?_
    refine WL.know 23 (.bool (c.boot == c.boot)) (.bool true) rfl (congrArg Value.bool (by simp)) ?_
    refine WL.runs 1 [(24, .pointer (some ⟨g3, 2, none⟩))] (fun _ => by kernel_rfl) ?_
    refine WL.load 3 (.pointer (some ⟨g3, 2, none⟩)) (.int .i64 c.seq) 25 (by kernel_rfl) (run_ld (hC43.get 0 rfl) rfl) ?_
    refine WL.runs 1 [(26, .pointer (some ⟨g8, 2, none⟩))] (fun _ => by kernel_rfl) ?_
    refine WL.load 3 (.pointer (some ⟨g8, 2, none⟩)) (.int .i64 c.seq) 27 (by kernel_rfl) (run_ld (hC43.get 1 rfl) rfl) ?_
    refine WL.runs 3 [(30, .bool (c.seq == c.seq)), (29, .bool (c.seq == c.seq)), (28, .bool (c.seq == c.seq))] (fun _ => by kernel_rfl) ?_
    refine WL.know 30 (.bool (c.seq == c.seq)) (.bool true) rfl (congrArg Value.bool (by simp)) ?_
    refine WL.runs 1 [(31, .pointer (some ⟨g3, 3, none⟩))] (fun _ => by kernel_rfl) ?_
    refine WL.load 3 (.pointer (some ⟨g3, 3, none⟩)) (.int .i64 c.time) 32 (by kernel_rfl) (run_ld (hC43.get 0 rfl) rfl) ?_
    refine WL.runs 1 [(33, .pointer (some ⟨g8, 3, none⟩))] (fun _ => by kernel_rfl) ?_
    refine WL.load 3 (.pointer (some ⟨g8, 3, none⟩)) (.int .i64 c.time) 34 (by kernel_rfl) (run_ld (hC43.get 1 rfl) rfl) ?_
    refine WL.runs 3 [(37, .bool (c.time == c.time)), (36, .bool (c.time == c.time)), (35, .bool (c.time == c.time))] (fun _ => by kernel_rfl) ?_
    refine WL.know 37 (.bool (c.time == c.time)) (.bool true) rfl (congrArg Value.bool (by simp)) ?_
    refine WL.runs 1 [(38, .pointer (some ⟨g3, 4, none⟩))] (fun _ => by kernel_rfl) ?_
    refine WL.load 3 (.pointer (some ⟨g3, 4, none⟩)) (.int .i64 c.kind) 39 (by kernel_rfl) (run_ld (hC43.get 0 rfl) rfl) ?_
    refine WL.runs 1 [(40, .pointer (some ⟨g8, 4, none⟩))] (fun _ => by kernel_rfl) ?_
    refine WL.load 3 (.pointer (some ⟨g8, 4, none⟩)) (.int .i64 c.kind) 41 (by kernel_rfl) (run_ld (hC43.get 1 rfl) rfl) ?_
    refine WL.runs 3 [(44, .bool (c.kind == c.kind)), (43, .bool (c.kind == c.kind)), (42, .bool (c.kind == c.kind))] (fun _ => by kernel_rfl) ?_
    refine WL.know 44 (.bool (c.kind == c.kind)) (.bool true) rfl (congrArg Value.bool (by simp)) ?_
    refine WL.runs 1 [(45, .pointer (some ⟨g3, 9, none⟩))] (fun _ => by kernel_rfl) ?_
    refine WL.load 39 (.pointer (some ⟨g3, 9, none⟩)) (.int .u32 c.dip) 46 (by kernel_rfl) (run_ld (hC43.get 0 rfl) rfl) ?_
    refine WL.runs 1 [(47, .pointer (some ⟨g8, 9, none⟩))] (fun _ => by kernel_rfl) ?_
    refine WL.load 39 (.pointer (some ⟨g8, 9, none⟩)) (.int .u32 c.dip) 48 (by kernel_rfl) (run_ld (hC43.get 1 rfl) rfl) ?_
    refine WL.runs 3 [(51, .bool (c.dip == c.dip)), (50, .bool (c.dip == c.dip)), (49, .bool (c.dip == c.dip))] (fun _ => by kernel_rfl) ?_
    refine WL.know 51 (.bool (c.dip == c.dip)) (.bool true) rfl (congrArg Value.bool (by simp)) ?_
    refine WL.runs 1 [(52, .pointer (some ⟨g3, 10, none⟩))] (fun _ => by kernel_rfl) ?_
    refine WL.load 39 (.pointer (some ⟨g3, 10, none⟩)) (.int .u32 c.vip) 53 (by kernel_rfl) (run_ld (hC43.get 0 rfl) rfl) ?_
    refine WL.runs 1 [(54, .pointer (some ⟨g8, 10, none⟩))] (fun _ => by kernel_rfl) ?_
    refine WL.load 39 (.pointer (some ⟨g8, 10, none⟩)) (.int .u32 c.vip) 55 (by kernel_rfl) (run_ld (hC43.get 1 rfl) rfl) ?_
    refine WL.runs 3 [(58, .bool (c.vip == c.vip)), (57, .bool (c.vip == c.vip)), (56, .bool (c.vip == c.vip))] (fun _ => by kernel_rfl) ?_
    refine WL.know 58 (.bool (c.vip == c.vip)) (.bool true) rfl (congrArg Value.bool (by simp)) ?_
    refine WL.runs 1 [(59, .pointer (some ⟨g3, 11, none⟩))] (fun _ => by kernel_rfl) ?_
    refine WL.load 4 (.pointer (some ⟨g3, 11, none⟩)) (.bool c.up) 60 (by kernel_rfl) (run_ld (hC43.get 0 rfl) rfl) ?_
    refine WL.runs 1 [(61, .pointer (some ⟨g8, 11, none⟩))] (fun _ => by kernel_rfl) ?_
    refine WL.load 4 (.pointer (some ⟨g8, 11, none⟩)) (.bool c.up) 62 (by kernel_rfl) (run_ld (hC43.get 1 rfl) rfl) ?_
    refine WL.runs 3 [(65, .bool (c.up == c.up)), (64, .bool (c.up == c.up)), (63, .bool (c.up == c.up))] (fun _ => by kernel_rfl) ?_
    refine WL.know 65 (.bool (c.up == c.up)) (.bool true) rfl (congrArg Value.bool (by simp)) ?_
    refine WL.runs 1 [(66, .pointer (some ⟨g19, 0, none⟩))] (fun _ => by kernel_rfl) ?_
    refine WL.load 39 (.pointer (some ⟨g19, 0, none⟩)) (.int .u32 0) 67 (by kernel_rfl) (run_ld (hC43.get 2 rfl) rfl) ?_
    refine WL.runs 1 [(68, .pointer (some ⟨g27, 0, none⟩))] (fun _ => by kernel_rfl) ?_
    refine WL.load 39 (.pointer (some ⟨g27, 0, none⟩)) (.int .u32 0) 69 (by kernel_rfl) (run_ld (hC43.get 3 rfl) rfl) ?_
    refine WL.runs 4 [(73, .pointer (some ⟨g19, 1, none⟩)), (72, .bool true), (71, .bool true), (70, .bool true)] (fun _ => by kernel_rfl) ?_
    refine WL.load 3 (.pointer (some ⟨g19, 1, none⟩)) (.int .i64 0) 74 (by kernel_rfl) (run_ld (hC43.get 2 rfl) rfl) ?_
    refine WL.runs 1 [(75, .pointer (some ⟨g27, 1, none⟩))] (fun _ => by kernel_rfl) ?_
    refine WL.load 3 (.pointer (some ⟨g27, 1, none⟩)) (.int .i64 0) 76 (by kernel_rfl) (run_ld (hC43.get 3 rfl) rfl) ?_
    refine WL.runs 4 [(80, .pointer (some ⟨g19, 2, none⟩)), (79, .bool true), (78, .bool true), (77, .bool true)] (fun _ => by kernel_rfl) ?_
    refine WL.load 3 (.pointer (some ⟨g19, 2, none⟩)) (.int .i64 0) 81 (by kernel_rfl) (run_ld (hC43.get 2 rfl) rfl) ?_
    refine WL.runs 1 [(82, .pointer (some ⟨g27, 2, none⟩))] (fun _ => by kernel_rfl) ?_
    refine WL.load 3 (.pointer (some ⟨g27, 2, none⟩)) (.int .i64 0) 83 (by kernel_rfl) (run_ld (hC43.get 3 rfl) rfl) ?_
    refine WL.runs 4 [(87, .pointer (some ⟨g19, 3, none⟩)), (86, .bool true), (85, .bool true), (84, .bool true)] (fun _ => by kernel_rfl) ?_
    refine WL.load 40 (.pointer (some ⟨g19, 3, none⟩)) (.slice none 0 0) 88 (by kernel_rfl) (run_ld (hC43.get 2 rfl) rfl) ?_
    refine WL.runs 1 [(89, .pointer (some ⟨g27, 3, none⟩))] (fun _ => by kernel_rfl) ?_
    refine WL.load 40 (.pointer (some ⟨g27, 3, none⟩)) (.slice none 0 0) 90 (by kernel_rfl) (run_ld (hC43.get 3 rfl) rfl) ?_
    refine WL.call rfl rfl rfl rfl rfl (by kernel_rfl) (EqualE w40) ?_
    rintro _ w48 ⟨rfl, hF47⟩
    refine ⟨_, rfl, ?_⟩
    have hC49 := hC43.call hF47
    refine WL.runs 2 [(4, .bool true), (92, .bool true)] (fun _ => by kernel_rfl) ?_
    refine WL.done rfl ?_
    refine QX.then_normal (hK46 _ _ ?_)
    refine WC.ret ?_
    refine (hret _ _ _ rfl ?_).1
    clear hN hret hret' hK46 hK14 hK2
    exact ⟨rfl, hC49.fr⟩
  · -- operation 5 comes first
    refine WO.new 5 (fun b => .pointer (some ⟨b, 0, none⟩)) (.cells #[.int .u32 0, .int .i64 0, .int .i64 0, .slice none 0 0] 42) (by kernel_rfl) rfl rfl rfl rfl rfl (fun _ => by kernel_rfl) (fun g50 w51 hb54 hl55 hF52 ho56 => ?_)
    have hC53 := hC17.callB hF52 hb54 ho56
    have hS57 := hS18.trans hF52 (by simp)
    refine ⟨hS57, ?_⟩
    refine WD.new 4 (fun b => .pointer (some ⟨b, 0, none⟩)) (.cells #[.int .u32 0, .int .i64 0, .int .i64 0, .slice none 0 0] 42) (by kernel_rfl) rfl rfl rfl rfl rfl (fun _ => by kernel_rfl) (fun g58 w59 hb62 hl63 hF60 ho64 => ?_)
    have hC61 := hC53.callB hF60 hb62 ho64
    have hS65 := hS57.trans hF60 (by simp)
    refine ⟨hS65, ?_⟩
    obtain ⟨w66, hr67, hF68, hC69⟩ := sto_run (c' := #[.int .u32 0, .int .i64 0, .int .i64 0, .slice none 0 0]) Try.prog hC61 3 42 g58 0 (.agg #[.int .u32 0, .int .i64 0, .int .i64 0, .slice none 0 0]) rfl (by kernel_rfl)
    have hS70 := hS65.trans hF68 (by first | (simp; done) | (simp [*]; done) | (have q_ := hS65.size; simp; omega))
    refine WD.semU 6 (Instr.storeAt 42 (.pointer (some ⟨g58, 0, none⟩)) (.agg #[.int .u32 0, .int .i64 0, .int .i64 0, .slice none 0 0])) (by kernel_rfl) (by kernel_rfl) hr67 hS70 ?_
    obtain ⟨w71, hr72, hF73, hC74⟩ := sto_run (c' := #[.int .u32 0, .int .i64 0, .int .i64 0, .slice none 0 0]) Try.prog hC69 2 42 g50 0 (.agg #[.int .u32 0, .int .i64 0, .int .i64 0, .slice none 0 0]) rfl (by kernel_rfl)
    have hS75 := hS70.trans hF73 (by first | (simp; done) | (simp [*]; done) | (have q_ := hS70.size; simp; omega))
    refine WD.semU 7 (Instr.storeAt 42 (.pointer (some ⟨g50, 0, none⟩)) (.agg #[.int .u32 0, .int .i64 0, .int .i64 0, .slice none 0 0])) (by kernel_rfl) (by kernel_rfl) hr72 hS75 ?_
    refine WD.done (by kernel_rfl) ?_
    refine QX.then_normal (hK14 _ _ ?_)
    refine WC.seq (fun K76 hK77 => ?_)
    refine WC.region ?_
    refine WL.runs 1 [(11, .pointer (some ⟨g3, 0, none⟩))] (fun _ => by kernel_rfl) ?_
    refine WL.load 3 (.pointer (some ⟨g3, 0, none⟩)) (.int .i64 c.node) 12 (by kernel_rfl) (run_ld (hC74.get 0 rfl) rfl) ?_
    refine WL.runs 1 [(13, .pointer (some ⟨g8, 0, none⟩))] (fun _ => by kernel_rfl) ?_
    refine WL.load 3 (.pointer (some ⟨g8, 0, none⟩)) (.int .i64 c.node) 14 (by kernel_rfl) (run_ld (hC74.get 1 rfl) rfl) ?_
    refine WL.runs 2 [(16, .bool (c.node == c.node)), (15, .bool (c.node == c.node))] (fun _ => by kernel_rfl) ?_
    refine WL.know 16 (.bool (c.node == c.node)) (.bool true) rfl (congrArg Value.bool (by simp)) ?_
    refine WL.runs 1 [(17, .pointer (some ⟨g3, 1, none⟩))] (fun _ => by kernel_rfl) ?_
    refine WL.load 3 (.pointer (some ⟨g3, 1, none⟩)) (.int .i64 c.boot) 18 (by kernel_rfl) (run_ld (hC74.get 0 rfl) rfl) ?_
    refine WL.runs 1 [(19, .pointer (some ⟨g8, 1, none⟩))] (fun _ => by kernel_rfl) ?_
    refine WL.load 3 (.pointer (some ⟨g8, 1, none⟩)) (.int .i64 c.boot) 20 (by kernel_rfl) (run_ld (hC74.get 1 rfl) rfl) ?_
    refine WL.runs 3 [(23, .bool (c.boot == c.boot)), (22, .bool (c.boot == c.boot)), (21, .bool (c.boot == c.boot))] (fun _ => by kernel_rfl) ?_
    refine WL.know 23 (.bool (c.boot == c.boot)) (.bool true) rfl (congrArg Value.bool (by simp)) ?_
    refine WL.runs 1 [(24, .pointer (some ⟨g3, 2, none⟩))] (fun _ => by kernel_rfl) ?_
    refine WL.load 3 (.pointer (some ⟨g3, 2, none⟩)) (.int .i64 c.seq) 25 (by kernel_rfl) (run_ld (hC74.get 0 rfl) rfl) ?_
    refine WL.runs 1 [(26, .pointer (some ⟨g8, 2, none⟩))] (fun _ => by kernel_rfl) ?_
    refine WL.load 3 (.pointer (some ⟨g8, 2, none⟩)) (.int .i64 c.seq) 27 (by kernel_rfl) (run_ld (hC74.get 1 rfl) rfl) ?_
    refine WL.runs 3 [(30, .bool (c.seq == c.seq)), (29, .bool (c.seq == c.seq)), (28, .bool (c.seq == c.seq))] (fun _ => by kernel_rfl) ?_
    refine WL.know 30 (.bool (c.seq == c.seq)) (.bool true) rfl (congrArg Value.bool (by simp)) ?_
    refine WL.runs 1 [(31, .pointer (some ⟨g3, 3, none⟩))] (fun _ => by kernel_rfl) ?_
    refine WL.load 3 (.pointer (some ⟨g3, 3, none⟩)) (.int .i64 c.time) 32 (by kernel_rfl) (run_ld (hC74.get 0 rfl) rfl) ?_
    refine WL.runs 1 [(33, .pointer (some ⟨g8, 3, none⟩))] (fun _ => by kernel_rfl) ?_
    refine WL.load 3 (.pointer (some ⟨g8, 3, none⟩)) (.int .i64 c.time) 34 (by kernel_rfl) (run_ld (hC74.get 1 rfl) rfl) ?_
    refine WL.runs 3 [(37, .bool (c.time == c.time)), (36, .bool (c.time == c.time)), (35, .bool (c.time == c.time))] (fun _ => by kernel_rfl) ?_
    refine WL.know 37 (.bool (c.time == c.time)) (.bool true) rfl (congrArg Value.bool (by simp)) ?_
    refine WL.runs 1 [(38, .pointer (some ⟨g3, 4, none⟩))] (fun _ => by kernel_rfl) ?_
    refine WL.load 3 (.pointer (some ⟨g3, 4, none⟩)) (.int .i64 c.kind) 39 (by kernel_rfl) (run_ld (hC74.get 0 rfl) rfl) ?_
    refine WL.runs 1 [(40, .pointer (some ⟨g8, 4, none⟩))] (fun _ => by kernel_rfl) ?_
    refine WL.load 3 (.pointer (some ⟨g8, 4, none⟩)) (.int .i64 c.kind) 41 (by kernel_rfl) (run_ld (hC74.get 1 rfl) rfl) ?_
    refine WL.runs 3 [(44, .bool (c.kind == c.kind)), (43, .bool (c.kind == c.kind)), (42, .bool (c.kind == c.kind))] (fun _ => by kernel_rfl) ?_
    refine WL.know 44 (.bool (c.kind == c.kind)) (.bool true) rfl (congrArg Value.bool (by simp)) ?_
    refine WL.runs 1 [(45, .pointer (some ⟨g3, 9, none⟩))] (fun _ => by kernel_rfl) ?_
    refine WL.load 39 (.pointer (some ⟨g3, 9, none⟩)) (.int .u32 c.dip) 46 (by kernel_rfl) (run_ld (hC74.get 0 rfl) rfl) ?_
    refine WL.runs 1 [(47, .pointer (some ⟨g8, 9, none⟩))] (fun _ => by kernel_rfl) ?_
    refine WL.load 39 (.pointer (some ⟨g8, 9, none⟩)) (.int .u32 c.dip) 48 (by kernel_rfl) (run_ld (hC74.get 1 rfl) rfl) ?_
    refine WL.runs 3 [(51, .bool (c.dip == c.dip)), (50, .bool (c.dip == c.dip)), (49, .bool (c.dip == c.dip))] (fun _ => by kernel_rfl) ?_
    refine WL.know 51 (.bool (c.dip == c.dip)) (.bool true) rfl (congrArg Value.bool (by simp)) ?_
    refine WL.runs 1 [(52, .pointer (some ⟨g3, 10, none⟩))] (fun _ => by kernel_rfl) ?_
    refine WL.load 39 (.pointer (some ⟨g3, 10, none⟩)) (.int .u32 c.vip) 53 (by kernel_rfl) (run_ld (hC74.get 0 rfl) rfl) ?_
    refine WL.runs 1 [(54, .pointer (some ⟨g8, 10, none⟩))] (fun _ => by kernel_rfl) ?_
    refine WL.load 39 (.pointer (some ⟨g8, 10, none⟩)) (.int .u32 c.vip) 55 (by kernel_rfl) (run_ld (hC74.get 1 rfl) rfl) ?_
    refine WL.runs 3 [(58, .bool (c.vip == c.vip)), (57, .bool (c.vip == c.vip)), (56, .bool (c.vip == c.vip))] (fun _ => by kernel_rfl) ?_
    refine WL.know 58 (.bool (c.vip == c.vip)) (.bool true) rfl (congrArg Value.bool (by simp)) ?_
    refine WL.runs 1 [(59, .pointer (some ⟨g3, 11, none⟩))] (fun _ => by kernel_rfl) ?_
    refine WL.load 4 (.pointer (some ⟨g3, 11, none⟩)) (.bool c.up) 60 (by kernel_rfl) (run_ld (hC74.get 0 rfl) rfl) ?_
    refine WL.runs 1 [(61, .pointer (some ⟨g8, 11, none⟩))] (fun _ => by kernel_rfl) ?_
    refine WL.load 4 (.pointer (some ⟨g8, 11, none⟩)) (.bool c.up) 62 (by kernel_rfl) (run_ld (hC74.get 1 rfl) rfl) ?_
    refine WL.runs 3 [(65, .bool (c.up == c.up)), (64, .bool (c.up == c.up)), (63, .bool (c.up == c.up))] (fun _ => by kernel_rfl) ?_
    refine WL.know 65 (.bool (c.up == c.up)) (.bool true) rfl (congrArg Value.bool (by simp)) ?_
    refine WL.runs 1 [(66, .pointer (some ⟨g58, 0, none⟩))] (fun _ => by kernel_rfl) ?_
    refine WL.load 39 (.pointer (some ⟨g58, 0, none⟩)) (.int .u32 0) 67 (by kernel_rfl) (run_ld (hC74.get 3 rfl) rfl) ?_
    refine WL.runs 1 [(68, .pointer (some ⟨g50, 0, none⟩))] (fun _ => by kernel_rfl) ?_
    refine WL.load 39 (.pointer (some ⟨g50, 0, none⟩)) (.int .u32 0) 69 (by kernel_rfl) (run_ld (hC74.get 2 rfl) rfl) ?_
    refine WL.runs 4 [(73, .pointer (some ⟨g58, 1, none⟩)), (72, .bool true), (71, .bool true), (70, .bool true)] (fun _ => by kernel_rfl) ?_
    refine WL.load 3 (.pointer (some ⟨g58, 1, none⟩)) (.int .i64 0) 74 (by kernel_rfl) (run_ld (hC74.get 3 rfl) rfl) ?_
    refine WL.runs 1 [(75, .pointer (some ⟨g50, 1, none⟩))] (fun _ => by kernel_rfl) ?_
    refine WL.load 3 (.pointer (some ⟨g50, 1, none⟩)) (.int .i64 0) 76 (by kernel_rfl) (run_ld (hC74.get 2 rfl) rfl) ?_
    refine WL.runs 4 [(80, .pointer (some ⟨g58, 2, none⟩)), (79, .bool true), (78, .bool true), (77, .bool true)] (fun _ => by kernel_rfl) ?_
    refine WL.load 3 (.pointer (some ⟨g58, 2, none⟩)) (.int .i64 0) 81 (by kernel_rfl) (run_ld (hC74.get 3 rfl) rfl) ?_
    refine WL.runs 1 [(82, .pointer (some ⟨g50, 2, none⟩))] (fun _ => by kernel_rfl) ?_
    refine WL.load 3 (.pointer (some ⟨g50, 2, none⟩)) (.int .i64 0) 83 (by kernel_rfl) (run_ld (hC74.get 2 rfl) rfl) ?_
    refine WL.runs 4 [(87, .pointer (some ⟨g58, 3, none⟩)), (86, .bool true), (85, .bool true), (84, .bool true)] (fun _ => by kernel_rfl) ?_
    refine WL.load 40 (.pointer (some ⟨g58, 3, none⟩)) (.slice none 0 0) 88 (by kernel_rfl) (run_ld (hC74.get 3 rfl) rfl) ?_
    refine WL.runs 1 [(89, .pointer (some ⟨g50, 3, none⟩))] (fun _ => by kernel_rfl) ?_
    refine WL.load 40 (.pointer (some ⟨g50, 3, none⟩)) (.slice none 0 0) 90 (by kernel_rfl) (run_ld (hC74.get 2 rfl) rfl) ?_
    refine WL.call rfl rfl rfl rfl rfl (by kernel_rfl) (EqualE w71) ?_
    rintro _ w79 ⟨rfl, hF78⟩
    refine ⟨_, rfl, ?_⟩
    have hC80 := hC74.call hF78
    refine WL.runs 2 [(4, .bool true), (92, .bool true)] (fun _ => by kernel_rfl) ?_
    refine WL.done rfl ?_
    refine QX.then_normal (hK77 _ _ ?_)
    refine WC.ret ?_
    refine (hret _ _ _ rfl ?_).1
    clear hN hret hret' hK77 hK14 hK2
    exact ⟨rfl, hC80.fr⟩

theorem Check_ct (c : Cm) (w : World) (h : okC c) : Calls Try.prog 38 #[.agg #[.int .i64 c.node, .int .i64 c.boot, .int .i64 c.seq, .int .i64 c.time, .int .i64 c.kind, .int .u32 0, .int .i64 0, .int .i64 0, .slice none 0 0, .int .u32 c.dip, .int .u32 c.vip, .bool c.up]] w fun e w' => e = .returned .nilIface ∧ Fr w w' [] := by
  refine enterD (n := 45) Try.func38 rfl rfl (Nat.le_of_ble_eq_true rfl) ?_
  intro Q0 hN hret hret'
  obtain ⟨hn0_, hn1_⟩ := h.node
  have hC := Cx.start w
  refine WC.seq (fun K1 hK2 => ?_)
  refine WC.region ?_
  refine WL.newM hC (fun b => .pointer (some ⟨b, 0, none⟩)) (.cells #[.int .i64 c.node, .int .i64 c.boot, .int .i64 c.seq, .int .i64 c.time, .int .i64 c.kind, .int .u32 0, .int .i64 0, .int .i64 0, .slice none 0 0, .int .u32 c.dip, .int .u32 c.vip, .bool c.up] 44) 1 (fun _ => by kernel_rfl) (fun g3 w4 hb7 hF5 hC6 => ?_)
  refine WL.runs 1 [(2, .nilIface)] (fun _ => by kernel_rfl) ?_
  refine WL.done rfl ?_
  refine QX.then_normal (hK2 _ _ ?_)
  refine WC.seq (fun K8 hK9 => ?_)
  refine WC.seq (fun K10 hK11 => ?_)
  refine WC.region ?_
  refine WL.runs 1 [(7, .pointer (some ⟨g3, 1, none⟩))] (fun _ => by kernel_rfl) ?_
  refine WL.load 3 (.pointer (some ⟨g3, 1, none⟩)) (.int .i64 c.boot) 8 (by kernel_rfl) (run_ld (hC6.get 0 rfl) rfl) ?_
  refine WL.runs 1 [(9, .pointer (some ⟨g3, 2, none⟩))] (fun _ => by kernel_rfl) ?_
  refine WL.load 3 (.pointer (some ⟨g3, 2, none⟩)) (.int .i64 c.seq) 10 (by kernel_rfl) (run_ld (hC6.get 0 rfl) rfl) ?_
  refine WL.runs 1 [(11, .pointer (some ⟨g3, 3, none⟩))] (fun _ => by kernel_rfl) ?_
  refine WL.load 3 (.pointer (some ⟨g3, 3, none⟩)) (.int .i64 c.time) 12 (by kernel_rfl) (run_ld (hC6.get 0 rfl) rfl) ?_
  refine WL.runs 2 [(14, .int .i64 0), (13, .agg #[.int .i64 c.boot, .int .i64 c.seq, .int .i64 c.time])] (fun _ => by kernel_rfl) ?_
  refine WL.done rfl ?_
  refine QX.then_normal (hK11 _ _ ?_)
  refine WC.block ?_
  refine WC.loop (fun m_ E_ w_ => ∃ (k : Nat), m_ = 3 - k ∧ E_ = [(0, .agg #[.int .i64 c.node, .int .i64 c.boot, .int .i64 c.seq, .int .i64 c.time, .int .i64 c.kind, .int .u32 0, .int .i64 0, .int .i64 0, .slice none 0 0, .int .u32 c.dip, .int .u32 c.vip, .bool c.up]), (1, .pointer (some ⟨g3, 0, none⟩)), (7, .pointer (some ⟨g3, 1, none⟩)), (8, .int .i64 c.boot), (9, .pointer (some ⟨g3, 2, none⟩)), (10, .int .i64 c.seq), (11, .pointer (some ⟨g3, 3, none⟩)), (12, .int .i64 c.time), (13, .agg ([c.boot, c.seq, c.time].flatMap (Go.Tw.encI .i64)).toArray), (14, .int .i64 (k : Int))] ∧ Cx w [] w_ [(g3, .cells #[.int .i64 c.node, .int .i64 c.boot, .int .i64 c.seq, .int .i64 c.time, .int .i64 c.kind, .int .u32 0, .int .i64 0, .int .i64 0, .slice none 0 0, .int .u32 c.dip, .int .u32 c.vip, .bool c.up] 44)] [] ∧ (k ≤ 3)) ⟨_, _, ⟨0, rfl, rfl, hC6, Nat.zero_le _⟩, sub_of ⟨rfl, rfl, rfl, rfl, rfl, rfl, rfl, rfl, rfl, rfl, trivial⟩⟩ (fun m15 E_ w16 K12 hK13 hI14 => ?_)
  obtain ⟨k, rfl, rfl, hC17, hk⟩ := hI14
  have hl3_ : ([c.boot, c.seq, c.time]).length = 3 := rfl
  refine WC.seq (fun K18 hK19 => ?_)
  refine WC.region ?_
  refine WL.runs 1 [(15, .bool (decide ((k : Int) < 3)))] (fun _ => by kernel_rfl) ?_
  refine WL.done rfl ?_
  refine QX.then_normal (hK19 _ _ ?_)
  refine WC.seq (fun K20 hK21 => ?_)
  refine WC.test_at 15 (decide ((k : Int) < 3)) rfl (fun t22b => ?_) (fun t22b => ?_)
  · -- (k : Int) < 3: true
    have t22 : (k : Int) < 3 := by have q_ := of_decide_eq_true t22b; omega
    refine WC.cond_true rfl ?_
    refine WC.skip ?_
    refine QX.then_normal (hK21 _ _ ?_)
    refine WC.seq (fun K23 hK24 => ?_)
    refine WC.block ?_
    refine WC.seq (fun K25 hK26 => ?_)
    refine WC.region ?_
    obtain ⟨e27, he28⟩ := get_some (xs := [c.boot, c.seq, c.time]) (i := k) (by omega)
    refine WL.indexA (enc := (Go.Tw.encI .i64)) [c.boot, c.seq, c.time] 101 3 3 k .i64 (k : Int) e27 (.int .i64 e27) 16 (by kernel_rfl) (by kernel_rfl) (Go.Tw.encI_len _) (by kernel_rfl) (by omega) (by omega) he28 rfl ?_
    have hte_ := time_el h.boot h.seq h.time he28
    refine WL.runs 1 [(4, .int .i64 e27)] (fun _ => by kernel_rfl) ?_
    refine WL.done rfl ?_
    refine QX.then_normal (hK26 _ _ ?_)
    refine WC.seq (fun K29 hK30 => ?_)
    refine WC.region ?_
    refine WL.runs 3 [(19, .bool (decide (e27 < 0))), (18, .bool (decide (e27 < 0))), (17, .int .i64 e27)] (fun _ => by kernel_rfl) ?_
    refine WL.know 19 (.bool (decide (e27 < 0))) (.bool false) rfl (congrArg Value.bool (by simp; omega)) ?_
    refine WL.runs 3 [(22, .bool (decide (e27 > 1099511627776))), (21, .bool (decide (e27 > 1099511627776))), (20, .int .i64 e27)] (fun _ => by kernel_rfl) ?_
    refine WL.done rfl ?_
    refine QX.then_normal (hK30 _ _ ?_)
    refine WC.know 22 (.bool (decide (e27 > 1099511627776))) (.bool false) rfl (congrArg Value.bool (by simp; omega)) ?_
    refine WC.cond_false rfl ?_
    refine WC.skip ?_
    refine QX.block_normal ?_
    refine QX.then_normal (hK24 _ _ ?_)
    refine WC.region ?_
    refine WL.runs 1 [(24, .int .i64 (IntKind.i64.wrap ((k : Int) + 1)))] (fun _ => by kernel_rfl) ?_
    refine WL.recast (show (.int .i64 (IntKind.i64.wrap ((k : Int) + 1)) : Value) = .int .i64 ((k : Int) + 1) from by rw [wrap_in_i64 ((k : Int) + 1) (by omega) (by omega)]) ?_
    refine WL.runs 1 [(14, .int .i64 ((k : Int) + 1))] (fun _ => by kernel_rfl) ?_
    refine WL.done rfl ?_
    refine QX.then_normal ?_
    have hC31 := hC17.pick [0] [] rfl rfl
    refine fun a_ ha_ => hK13 _ _ _ ?_ ⟨k + 1, rfl, rfl, hC31, by omega⟩ a_ (ha_.weaken (sub_of ⟨rfl, rfl, rfl, rfl, rfl, rfl, rfl, rfl, rfl, rfl, trivial⟩))
    omega
  · -- (k : Int) < 3: false
    have t22 : (3 : Int) ≤ (k : Int) := by have q_ := of_decide_eq_false t22b; omega
    refine WC.cond_false rfl ?_
    refine WC.exit ?_
    refine QX.then_exit ?_
    refine QX.then_exit ?_
    refine QX.block_hit ?_
    refine QX.then_normal (hK9 _ _ ?_)
    refine WC.seq (fun K32 hK33 => ?_)
    refine WC.region ?_
    refine WL.load 44 (.pointer (some ⟨g3, 0, none⟩)) (.agg #[.int .i64 c.node, .int .i64 c.boot, .int .i64 c.seq, .int .i64 c.time, .int .i64 c.kind, .int .u32 0, .int .i64 0, .int .i64 0, .slice none 0 0, .int .u32 c.dip, .int .u32 c.vip, .bool c.up]) 26 (by kernel_rfl) (run_ld (hC17.get 0 rfl) rfl) ?_
    refine WL.call rfl rfl rfl rfl rfl (by kernel_rfl) (said_ct c w16 h) ?_
    rintro _ w35 ⟨rfl, hF34⟩
    refine ⟨_, rfl, ?_⟩
    have hC36 := hC17.call hF34
    refine WL.runs 3 [(29, .bool true), (28, .agg #[.int .i64 c.node, .int .i64 c.boot, .int .i64 c.seq, .int .i64 c.time, .int .i64 c.kind, .int .u32 0, .int .i64 0, .int .i64 0, .slice none 0 0, .int .u32 c.dip, .int .u32 c.vip, .bool c.up]), (25, .tuple #[.agg #[.int .i64 c.node, .int .i64 c.boot, .int .i64 c.seq, .int .i64 c.time, .int .i64 c.kind, .int .u32 0, .int .i64 0, .int .i64 0, .slice none 0 0, .int .u32 c.dip, .int .u32 c.vip, .bool c.up], .bool true])] (fun _ => by kernel_rfl) ?_
    refine WL.newM hC36 (fun b => .pointer (some ⟨b, 0, none⟩)) (.cells #[.int .i64 0, .int .i64 0, .int .i64 0, .int .i64 0, .int .i64 0, .int .u32 0, .int .i64 0, .int .i64 0, .slice none 0 0, .int .u32 0, .int .u32 0, .bool false] 44) 5 (fun _ => by kernel_rfl) (fun g37 w38 hb41 hF39 hC40 => ?_)
    refine WL.storeM (c' := #[.int .i64 c.node, .int .i64 c.boot, .int .i64 c.seq, .int .i64 c.time, .int .i64 c.kind, .int .u32 0, .int .i64 0, .int .i64 0, .slice none 0 0, .int .u32 c.dip, .int .u32 c.vip, .bool c.up]) hC40 1 44 g37 0 (.agg #[.int .i64 c.node, .int .i64 c.boot, .int .i64 c.seq, .int .i64 c.time, .int .i64 c.kind, .int .u32 0, .int .i64 0, .int .i64 0, .slice none 0 0, .int .u32 c.dip, .int .u32 c.vip, .bool c.up]) (by kernel_rfl) rfl (by kernel_rfl) (fun w42 hF44 hC45 => ?_)
    refine WL.runs 1 [(6, .bool true)] (fun _ => by kernel_rfl) ?_
    refine WL.done rfl ?_
    refine QX.then_normal (hK33 _ _ ?_)
    refine WC.seq (fun K46 hK47 => ?_)
    refine WC.seq (fun K48 hK49 => ?_)
    refine WC.region ?_
    refine WL.runs 4 [(33, .pointer (some ⟨g3, 0, none⟩)), (32, .bool false), (31, .bool false), (30, .bool true)] (fun _ => by kernel_rfl) ?_
    refine WL.load 3 (.pointer (some ⟨g3, 0, none⟩)) (.int .i64 c.node) 34 (by kernel_rfl) (run_ld (hC45.get 0 rfl) rfl) ?_
    refine WL.call rfl rfl rfl rfl rfl (by kernel_rfl) (manager_ct c.node w42 (by omega) (by omega)) ?_
    rintro _ w51 ⟨rfl, hF50⟩
    refine ⟨_, rfl, ?_⟩
    have hC52 := hC45.call hF50
    refine WL.runs 3 [(38, .bool false), (37, .bool false), (36, .bool false)] (fun _ => by kernel_rfl) ?_
    refine WL.load 44 (.pointer (some ⟨g3, 0, none⟩)) (.agg #[.int .i64 c.node, .int .i64 c.boot, .int .i64 c.seq, .int .i64 c.time, .int .i64 c.kind, .int .u32 0, .int .i64 0, .int .i64 0, .slice none 0 0, .int .u32 c.dip, .int .u32 c.vip, .bool c.up]) 39 (by kernel_rfl) (run_ld (hC52.get 0 rfl) rfl) ?_
    refine WL.load 44 (.pointer (some ⟨g37, 0, none⟩)) (.agg #[.int .i64 c.node, .int .i64 c.boot, .int .i64 c.seq, .int .i64 c.time, .int .i64 c.kind, .int .u32 0, .int .i64 0, .int .i64 0, .slice none 0 0, .int .u32 c.dip, .int .u32 c.vip, .bool c.up]) 40 (by kernel_rfl) (run_ld (hC52.get 1 rfl) rfl) ?_
    refine WL.call rfl rfl rfl rfl rfl (by kernel_rfl) (like_self c w51) ?_
    rintro _ w54 ⟨rfl, hF53⟩
    refine ⟨_, rfl, ?_⟩
    have hC55 := hC52.call hF53
    refine WL.runs 2 [(43, .bool false), (42, .bool false)] (fun _ => by kernel_rfl) ?_
    refine WL.done rfl ?_
    refine QX.then_normal (hK49 _ _ ?_)
    refine WC.cond_false rfl ?_
    refine WC.skip ?_
    refine QX.then_normal (hK47 _ _ ?_)
    refine WC.seq (fun K56 hK57 => ?_)
    refine WC.region ?_
    refine WL.runs 1 [(2, .nilIface)] (fun _ => by kernel_rfl) ?_
    refine WL.done rfl ?_
    refine QX.then_normal (hK57 _ _ ?_)
    refine WC.ret ?_
    refine (hret _ _ _ rfl ?_).1
    clear hN hret hret' hK57 hK49 hK47 hK33 hK21 hK19 hK11 hK9 hK2
    exact ⟨rfl, hC55.fr⟩

end Go.Proofs.Ytlpmmepbfafpfaa
