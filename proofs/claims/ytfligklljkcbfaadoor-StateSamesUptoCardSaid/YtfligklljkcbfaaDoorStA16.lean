/- Contracts of functions of the program, each proved by a walk through its code; conditions stand in the statements. -/
import Derived.Test.YtfligklljkcbfaaDoorProg
import Derived.Test.YtfligklljkcbfaaDoorTwEqN
namespace Go.Proofs.YtfligklljkcbfaaDoor
set_option linter.unusedSimpArgs false
set_option linter.unusedVariables false
set_option linter.unusedSectionVars false
open Go Go.RowKit Go.Tw
set_option linter.unusedVariables false
set_option maxRecDepth 20000
def cmpI (a b : Int) : Int := if a < b then -1 else if a > b then 1 else 0
def orI : List Int → Int
  | [] => 0
  | x :: r => if x ≠ 0 then x else orI r
theorem orI_drop {xs : List Int} {k : Nat} {x : Int} (h : xs[k]? = some x) : orI (xs.drop k) = if x ≠ 0 then x else orI (xs.drop (k + 1)) := by
  obtain ⟨hk, rfl⟩ := List.getElem?_eq_some_iff.1 h
  rw [List.drop_eq_getElem_cons hk, orI]
theorem isNaN_int (x : Int) (w : World) : Calls Tryd.prog 73 #[.int .i64 x] w fun e w' => e = .returned (.bool false) ∧ Fr w w' [] := by
 refine enterD (n := 6) Tryd.func73 rfl rfl (Nat.le_of_ble_eq_true rfl) ?_
 intro Q0 hN hret hret'
 have hC := Cx.start w
 refine WCs (fun K1 hK2 => ?_)
 refine WCg (WLr 1 [(2, .bool false)] (fun _ => by kernel_rfl) (WLd rfl (QXn (hK2 _ _ ?_))))
 refine WCs (fun K3 hK4 => ?_)
 refine WCg (WLr 4 [(2, .bool (x != x)), (5, .bool (x != x)), (4, .int .i64 x), (3, .int .i64 x)] (fun _ => by kernel_rfl) (WLd rfl (QXn (hK4 _ _ ?_))))
 refine WC.ret ?_
 refine (hret _ _ _ rfl ?_).1
 exact ⟨by simp [shut], hC.fr⟩

theorem compare_int (x y : Int) (w : World) : Calls Tryd.prog 55 #[.int .i64 x, .int .i64 y] w fun e w' => e = .returned (.int .i64 (cmpI x y)) ∧ Fr w w' [] := by
 refine enterD (n := 20) Tryd.func55 rfl rfl (Nat.le_of_ble_eq_true rfl) ?_
 intro Q0 hN hret hret'
 have hC := Cx.start w
 refine WCs (fun K1 hK2 => ?_)
 refine WCg (WLr 1 [(4, .int .i64 0)] (fun _ => by kernel_rfl) (WLd rfl (QXn (hK2 _ _ ?_))))
 refine WCs (fun K3 hK4 => ?_)
 refine WCg (WLr 1 [(7, .int .i64 x)] (fun _ => by kernel_rfl) ?_)
 refine WLc rfl rfl rfl rfl rfl (by kernel_rfl) (isNaN_int x w) ?_
 rintro _ w6 ⟨rfl, hF5⟩
 refine ⟨_, rfl, ?_⟩
 have hC7 := hC.call hF5
 refine WLr 1 [(5, .bool false)] (fun _ => by kernel_rfl) (WLd rfl (QXn (hK4 _ _ ?_)))
 refine WCs (fun K8 hK9 => ?_)
 refine WCg (WLr 1 [(9, .int .i64 y)] (fun _ => by kernel_rfl) ?_)
 refine WLc rfl rfl rfl rfl rfl (by kernel_rfl) (isNaN_int y w6) ?_
 rintro _ w11 ⟨rfl, hF10⟩
 refine ⟨_, rfl, ?_⟩
 have hC12 := hC7.call hF10
 refine WLr 1 [(6, .bool false)] (fun _ => by kernel_rfl) (WLd rfl (QXn (hK9 _ _ ?_)))
 refine WCs (fun K13 hK14 => ?_)
 refine WCs (fun K15 hK16 => ?_)
 refine WCg (WLr 1 [(11, .bool false)] (fun _ => by kernel_rfl) (WLd rfl (QXn (hK16 _ _ ?_))))
 refine WCf rfl (WC.skip (QXn (hK14 _ _ ?_)))
 refine WCs (fun K17 hK18 => ?_)
 refine WCs (fun K19 hK20 => ?_)
 refine WCg (WLr 1 [(13, .bool false)] (fun _ => by kernel_rfl) (WLd rfl (QXn (hK20 _ _ ?_))))
 refine WCf rfl (WC.skip (QXn (hK18 _ _ ?_)))
 refine WCs (fun K21 hK22 => ?_)
 refine WCs (fun K23 hK24 => ?_)
 refine WCg (WLr 3 [(16, .bool (decide (x < y))), (15, .int .i64 y), (14, .int .i64 x)] (fun _ => by kernel_rfl) (WLd rfl (QXn (hK24 _ _ ?_))))
 refine WCa 16 (decide (x < y)) rfl (fun t25b => ?_) (fun t25b => ?_)
 ·
  have t25 : x < y := by have q_ := of_decide_eq_true t25b; omega
  refine WCt rfl ?_
  refine WCs (fun K26 hK27 => ?_)
  refine WCg (WLr 1 [(4, .int .i64 (-1))] (fun _ => by kernel_rfl) (WLd rfl (QXn (hK27 _ _ ?_))))
  refine WC.ret ?_
  refine QXr ?_
  refine (hret _ _ _ rfl ?_).1
  clear hN hret hret' hK27 hK24 hK22 hK20 hK18 hK16 hK14 hK9 hK4 hK2
  exact ⟨by simp [shut, cmpI]; try grind, hC12.fr⟩
 ·
  have t25 : y ≤ x := by have q_ := of_decide_eq_false t25b; omega
  refine WCf rfl (WC.skip (QXn (hK22 _ _ ?_)))
  refine WCs (fun K28 hK29 => ?_)
  refine WCs (fun K30 hK31 => ?_)
  refine WCg (WLr 3 [(19, .bool (decide (x > y))), (18, .int .i64 y), (17, .int .i64 x)] (fun _ => by kernel_rfl) (WLd rfl (QXn (hK31 _ _ ?_))))
  refine WCa 19 (decide (x > y)) rfl (fun t32b => ?_) (fun t32b => ?_)
  ·
   have t32 : y < x := by have q_ := of_decide_eq_true t32b; omega
   refine WCt rfl ?_
   refine WCs (fun K33 hK34 => ?_)
   refine WCg (WLr 1 [(4, .int .i64 1)] (fun _ => by kernel_rfl) (WLd rfl (QXn (hK34 _ _ ?_))))
   refine WC.ret ?_
   refine QXr ?_
   refine (hret _ _ _ rfl ?_).1
   clear hN hret hret' hK34 hK31 hK29 hK24 hK22 hK20 hK18 hK16 hK14 hK9 hK4 hK2
   exact ⟨by simp [shut, cmpI]; try grind, hC12.fr⟩
  ·
   have t32 : x ≤ y := by have q_ := of_decide_eq_false t32b; omega
   refine WCf rfl (WC.skip (QXn (hK29 _ _ ?_)))
   refine WCs (fun K35 hK36 => ?_)
   refine WCg (WLr 1 [(4, .int .i64 0)] (fun _ => by kernel_rfl) (WLd rfl (QXn (hK36 _ _ ?_))))
   refine WC.ret ?_
   refine (hret _ _ _ rfl ?_).1
   clear hN hret hret' hK36 hK31 hK29 hK24 hK22 hK20 hK18 hK16 hK14 hK9 hK4 hK2
   exact ⟨by simp [shut, cmpI]; try grind, hC12.fr⟩

theorem isNaN_api_Addr (x : Int) (w : World) : Calls Tryd.prog 72 #[.int .u32 x] w fun e w' => e = .returned (.bool false) ∧ Fr w w' [] := by
 refine enterD (n := 6) Tryd.func72 rfl rfl (Nat.le_of_ble_eq_true rfl) ?_
 intro Q0 hN hret hret'
 have hC := Cx.start w
 refine WCs (fun K1 hK2 => ?_)
 refine WCg (WLr 1 [(2, .bool false)] (fun _ => by kernel_rfl) (WLd rfl (QXn (hK2 _ _ ?_))))
 refine WCs (fun K3 hK4 => ?_)
 refine WCg (WLr 4 [(2, .bool (x != x)), (5, .bool (x != x)), (4, .int .u32 x), (3, .int .u32 x)] (fun _ => by kernel_rfl) (WLd rfl (QXn (hK4 _ _ ?_))))
 refine WC.ret ?_
 refine (hret _ _ _ rfl ?_).1
 exact ⟨by simp [shut], hC.fr⟩

theorem compare_api_Addr (x y : Int) (w : World) : Calls Tryd.prog 54 #[.int .u32 x, .int .u32 y] w fun e w' => e = .returned (.int .i64 (cmpI x y)) ∧ Fr w w' [] := by
 refine enterD (n := 20) Tryd.func54 rfl rfl (Nat.le_of_ble_eq_true rfl) ?_
 intro Q0 hN hret hret'
 have hC := Cx.start w
 refine WCs (fun K1 hK2 => ?_)
 refine WCg (WLr 1 [(4, .int .i64 0)] (fun _ => by kernel_rfl) (WLd rfl (QXn (hK2 _ _ ?_))))
 refine WCs (fun K3 hK4 => ?_)
 refine WCg (WLr 1 [(7, .int .u32 x)] (fun _ => by kernel_rfl) ?_)
 refine WLc rfl rfl rfl rfl rfl (by kernel_rfl) (isNaN_api_Addr x w) ?_
 rintro _ w6 ⟨rfl, hF5⟩
 refine ⟨_, rfl, ?_⟩
 have hC7 := hC.call hF5
 refine WLr 1 [(5, .bool false)] (fun _ => by kernel_rfl) (WLd rfl (QXn (hK4 _ _ ?_)))
 refine WCs (fun K8 hK9 => ?_)
 refine WCg (WLr 1 [(9, .int .u32 y)] (fun _ => by kernel_rfl) ?_)
 refine WLc rfl rfl rfl rfl rfl (by kernel_rfl) (isNaN_api_Addr y w6) ?_
 rintro _ w11 ⟨rfl, hF10⟩
 refine ⟨_, rfl, ?_⟩
 have hC12 := hC7.call hF10
 refine WLr 1 [(6, .bool false)] (fun _ => by kernel_rfl) (WLd rfl (QXn (hK9 _ _ ?_)))
 refine WCs (fun K13 hK14 => ?_)
 refine WCs (fun K15 hK16 => ?_)
 refine WCg (WLr 1 [(11, .bool false)] (fun _ => by kernel_rfl) (WLd rfl (QXn (hK16 _ _ ?_))))
 refine WCf rfl (WC.skip (QXn (hK14 _ _ ?_)))
 refine WCs (fun K17 hK18 => ?_)
 refine WCs (fun K19 hK20 => ?_)
 refine WCg (WLr 1 [(13, .bool false)] (fun _ => by kernel_rfl) (WLd rfl (QXn (hK20 _ _ ?_))))
 refine WCf rfl (WC.skip (QXn (hK18 _ _ ?_)))
 refine WCs (fun K21 hK22 => ?_)
 refine WCs (fun K23 hK24 => ?_)
 refine WCg (WLr 3 [(16, .bool (decide (x < y))), (15, .int .u32 y), (14, .int .u32 x)] (fun _ => by kernel_rfl) (WLd rfl (QXn (hK24 _ _ ?_))))
 refine WCa 16 (decide (x < y)) rfl (fun t25b => ?_) (fun t25b => ?_)
 ·
  have t25 : x < y := by have q_ := of_decide_eq_true t25b; omega
  refine WCt rfl ?_
  refine WCs (fun K26 hK27 => ?_)
  refine WCg (WLr 1 [(4, .int .i64 (-1))] (fun _ => by kernel_rfl) (WLd rfl (QXn (hK27 _ _ ?_))))
  refine WC.ret ?_
  refine QXr ?_
  refine (hret _ _ _ rfl ?_).1
  clear hN hret hret' hK27 hK24 hK22 hK20 hK18 hK16 hK14 hK9 hK4 hK2
  exact ⟨by simp [shut, cmpI]; try grind, hC12.fr⟩
 ·
  have t25 : y ≤ x := by have q_ := of_decide_eq_false t25b; omega
  refine WCf rfl (WC.skip (QXn (hK22 _ _ ?_)))
  refine WCs (fun K28 hK29 => ?_)
  refine WCs (fun K30 hK31 => ?_)
  refine WCg (WLr 3 [(19, .bool (decide (x > y))), (18, .int .u32 y), (17, .int .u32 x)] (fun _ => by kernel_rfl) (WLd rfl (QXn (hK31 _ _ ?_))))
  refine WCa 19 (decide (x > y)) rfl (fun t32b => ?_) (fun t32b => ?_)
  ·
   have t32 : y < x := by have q_ := of_decide_eq_true t32b; omega
   refine WCt rfl ?_
   refine WCs (fun K33 hK34 => ?_)
   refine WCg (WLr 1 [(4, .int .i64 1)] (fun _ => by kernel_rfl) (WLd rfl (QXn (hK34 _ _ ?_))))
   refine WC.ret ?_
   refine QXr ?_
   refine (hret _ _ _ rfl ?_).1
   clear hN hret hret' hK34 hK31 hK29 hK24 hK22 hK20 hK18 hK16 hK14 hK9 hK4 hK2
   exact ⟨by simp [shut, cmpI]; try grind, hC12.fr⟩
  ·
   have t32 : x ≤ y := by have q_ := of_decide_eq_false t32b; omega
   refine WCf rfl (WC.skip (QXn (hK29 _ _ ?_)))
   refine WCs (fun K35 hK36 => ?_)
   refine WCg (WLr 1 [(4, .int .i64 0)] (fun _ => by kernel_rfl) (WLd rfl (QXn (hK36 _ _ ?_))))
   refine WC.ret ?_
   refine (hret _ _ _ rfl ?_).1
   clear hN hret hret' hK36 hK31 hK29 hK24 hK22 hK20 hK18 hK16 hK14 hK9 hK4 hK2
   exact ⟨by simp [shut, cmpI]; try grind, hC12.fr⟩

theorem or_int (A : Option Addr) (c : Nat) (xs : List Int) (w : World) (hr : Rd w 1 (encI .i64) A xs) (hm : xs.length < 2 ^ 60) : Calls Tryd.prog 53 #[.slice A xs.length c] w fun e w' => e = .returned (.int .i64 (orI xs)) ∧ Fr w w' [] := by
 refine enterD (n := 18) Tryd.func53 rfl rfl (Nat.le_of_ble_eq_true rfl) ?_
 intro Q0 hN hret hret'
 have hC := Cx.start w
 refine WCs (fun K1 hK2 => ?_)
 refine WCg (WLr 1 [(2, .int .i64 0)] (fun _ => by kernel_rfl) (WLd rfl (QXn (hK2 _ _ ?_))))
 refine WCs (fun K3 hK4 => ?_)
 refine WCg (WLr 1 [(3, .int .i64 0)] (fun _ => by kernel_rfl) (WLd rfl (QXn (hK4 _ _ ?_))))
 refine WCs (fun K5 hK6 => ?_)
 refine WCs (fun K7 hK8 => ?_)
 refine WCg (WLr 3 [(8, .int .i64 0), (7, .int .i64 (xs.length : Int)), (6, .slice A xs.length c)] (fun _ => by kernel_rfl) (WLd rfl (QXn (hK8 _ _ ?_))))
 refine WC.block ?_
 refine WC.loop (fun m_ E_ w_ => ∃ (k : Nat), m_ = xs.length - k ∧ E_ = [(0, .slice A xs.length c), (3, .int .i64 0), (6, .slice A xs.length c), (7, .int .i64 (xs.length : Int)), (8, .int .i64 (k : Int))] ∧ Cx w [] w_ [] [] ∧ (k ≤ xs.length ∧ orI xs = orI (xs.drop k))) ⟨_, _, ⟨0, rfl, rfl, hC, Nat.zero_le _, rfl⟩, sub_of ⟨rfl, rfl, rfl, rfl, rfl, trivial⟩⟩ (fun m12 E_ w13 K9 hK10 hI11 => ?_)
 obtain ⟨k, rfl, rfl, hC14, hk, hor⟩ := hI11
 refine WCs (fun K15 hK16 => ?_)
 refine WCg (WLr 1 [(9, .bool (decide ((k : Int) < (xs.length : Int))))] (fun _ => by kernel_rfl) (WLd rfl (QXn (hK16 _ _ ?_))))
 refine WCs (fun K17 hK18 => ?_)
 refine WCa 9 (decide ((k : Int) < (xs.length : Int))) rfl (fun t19b => ?_) (fun t19b => ?_)
 ·
  have t19 : (k : Int) < (xs.length : Int) := by have q_ := of_decide_eq_true t19b; omega
  refine WCt rfl ?_
  refine WC.skip ?_
  refine QXn (hK18 _ _ ?_)
  refine WCs (fun K20 hK21 => ?_)
  refine WC.block ?_
  refine WCs (fun K22 hK23 => ?_)
  refine WCg ?_
  obtain ⟨e24, he25⟩ := get_some (xs := xs) (i := k) (by omega)
  obtain ⟨b26, o28, hA27, hc29⟩ := hr.at_ _ _ he25
  refine WLi A xs.length c 10 .i64 (k : Int) b26 o28 k 1 (by kernel_rfl) hA27 (by omega) (by omega) (o28 + k) (by first | (simp; done) | omega) ?_
  refine WL.load 3 (.pointer (some ⟨b26, o28 + k, none⟩)) (.int .i64 e24) 11 (by kernel_rfl) (run_load1 rfl (by simpa [Nat.add_assoc] using hC14.fr.cell (hc29 0 _ rfl) (by simp))) ?_
  refine WLr 1 [(5, .int .i64 e24)] (fun _ => by kernel_rfl) (WLd rfl (QXn (hK23 _ _ ?_)))
  refine WCs (fun K30 hK31 => ?_)
  refine WCg (WLr 3 [(14, .bool (e24 != 0)), (13, .int .i64 0), (12, .int .i64 e24)] (fun _ => by kernel_rfl) (WLd rfl (QXn (hK31 _ _ ?_))))
  refine WCa 14 (e24 != 0) rfl (fun t32b => ?_) (fun t32b => ?_)
  ·
   have t32 : e24 ≠ 0 := by simpa using t32b
   refine WCt rfl ?_
   refine WCs (fun K33 hK34 => ?_)
   refine WCg (WLr 2 [(2, .int .i64 e24), (15, .int .i64 e24)] (fun _ => by kernel_rfl) (WLd rfl (QXn (hK34 _ _ ?_))))
   refine WC.ret ?_
   refine QXk ?_
   refine QXr ?_
   refine QXr ?_
   refine QXk ?_
   refine QXr ?_
   refine (hret _ _ _ rfl ?_).1
   clear hN hret hret' hK34 hK31 hK23 hK21 hK18 hK16 hK8 hK6 hK4 hK2
   exact ⟨by simp [shut]; rw [hor, orI_drop he25, if_pos (by assumption)], hC14.fr⟩
  ·
   have t32 : e24 = 0 := by simpa using t32b
   refine WCf rfl (WC.skip ?_)
   refine QXb ?_
   refine QXn (hK21 _ _ ?_)
   refine WCg (WLr 1 [(16, .int .i64 (IntKind.i64.wrap ((k : Int) + 1)))] (fun _ => by kernel_rfl) ?_)
   refine WLt (show (.int .i64 (IntKind.i64.wrap ((k : Int) + 1)) : Value) = .int .i64 ((k : Int) + 1) from by rw [wrap_in_i64 ((k : Int) + 1) (by omega) (by omega)]) ?_
   refine WLr 1 [(8, .int .i64 ((k : Int) + 1))] (fun _ => by kernel_rfl) ?_
   refine WLd rfl ?_
   refine QXn ?_
   have hC35 := hC14.pick [] [] rfl rfl
   refine fun a_ ha_ => hK10 _ _ _ ?_ ⟨k + 1, rfl, rfl, hC35, by omega, by rw [hor, orI_drop he25]; simp [*]⟩ a_ (ha_.weaken (sub_of ⟨rfl, rfl, rfl, rfl, rfl, trivial⟩))
   omega
 ·
  have t19 : (xs.length : Int) ≤ (k : Int) := by have q_ := of_decide_eq_false t19b; omega
  refine WCf rfl ?_
  refine WC.exit ?_
  refine QXe ?_
  refine QXe ?_
  refine QX.block_hit ?_
  refine QXn (hK6 _ _ ?_)
  refine WCs (fun K36 hK37 => ?_)
  refine WCg (WLr 2 [(2, .int .i64 0), (17, .int .i64 0)] (fun _ => by kernel_rfl) (WLd rfl (QXn (hK37 _ _ ?_))))
  refine WC.ret ?_
  refine (hret _ _ _ rfl ?_).1
  exact ⟨by simp [shut]; rw [hor, List.drop_of_length_le (by omega)]; simp [orI], hC14.fr⟩

theorem and255 (x : Int) (h0 : 0 ≤ x) (h1 : x ≤ 4294967295) : Go.bits .and .u32 x 255 = x % 256 := by
  obtain ⟨n, rfl⟩ := Int.eq_ofNat_of_zero_le h0
  show IntKind.u32.wrap ((BitVec.ofInt 32 (n : Int) &&& BitVec.ofInt 32 255).toNat : Int) = _
  rw [BitVec.toNat_and, BitVec.ofInt_natCast]
  have h2 : (BitVec.ofInt 32 255).toNat = 2 ^ 8 - 1 := by decide
  rw [h2, Nat.and_two_pow_sub_one_eq_mod, BitVec.toNat_ofNat, Nat.mod_eq_of_lt (show n < 2 ^ 32 by omega), IntKind.wrap_u32]
  omega
theorem or_dip (h v : Int) (h0 : 0 ≤ h) (h1 : h < 8) (v0 : 0 ≤ v) (v1 : v < 16) : Go.bits .or .u32 (Go.bits .or .u32 167837696 (IntKind.u32.wrap (IntKind.u32.wrap h * 2 ^ 8))) (IntKind.u32.wrap v) = 167837696 + 256 * h + v := by
  obtain ⟨n, rfl⟩ := Int.eq_ofNat_of_zero_le h0
  obtain ⟨m, rfl⟩ := Int.eq_ofNat_of_zero_le v0
  have hn : n < 8 := by omega
  have hm : m < 16 := by omega
  have key : ∀ n : Fin 8, ∀ m : Fin 16, Go.bits .or .u32 (Go.bits .or .u32 167837696 (IntKind.u32.wrap (IntKind.u32.wrap (n.val : Int) * 2 ^ 8))) (IntKind.u32.wrap (m.val : Int)) = 167837696 + 256 * (n.val : Int) + (m.val : Int) := by decide +kernel
  exact key ⟨n, hn⟩ ⟨m, hm⟩
def dipOk (h v : Int) : Bool := decide (0 ≤ h ∧ h < 8 ∧ 0 ≤ v ∧ v < 16)
def isHome (a : Int) : Bool := decide (167837696 ≤ a ∧ (a - 167837696) / 256 < 8 ∧ (a - 167837696) % 256 < 16)
def isVip (a : Int) : Bool := decide (1 ≤ a / 16777216 ∧ a / 16777216 ≤ 223 ∧ a / 16777216 ≠ 10 ∧ a / 16777216 ≠ 127)
theorem Dip_yes (h v : Int) (w : World) (h0 : 0 ≤ h) (h1 : h < 8) (v0 : 0 ≤ v) (v1 : v < 16) : Calls Tryd.prog 71 #[.int .i64 h, .int .i64 v] w fun e w' => e = .returned (.tuple #[.int .u32 (167837696 + 256 * h + v), .nilIface]) ∧ Fr w w' [] := by
 refine enterD (n := 28) Tryd.func71 rfl rfl (Nat.le_of_ble_eq_true rfl) ?_
 intro Q0 hN hret hret'
 have hC := Cx.start w
 refine WCs (fun K1 hK2 => ?_)
 refine WCg (WLr 2 [(5, .nilIface), (4, .int .u32 0)] (fun _ => by kernel_rfl) (WLd rfl (QXn (hK2 _ _ ?_))))
 refine WCs (fun K3 hK4 => ?_)
 refine WCs (fun K5 hK6 => ?_)
 refine WCg (WLr 3 [(8, .bool (decide (h < 0))), (7, .bool (decide (h < 0))), (6, .int .i64 h)] (fun _ => by kernel_rfl) ?_)
 refine WL.know 8 (.bool (decide (h < 0))) (.bool false) rfl (congrArg Value.bool (by simpa using h0)) ?_
 refine WLr 4 [(12, .bool (decide (h ≥ 8))), (11, .bool (decide (h ≥ 8))), (10, .bool (decide (h ≥ 8))), (9, .int .i64 h)] (fun _ => by kernel_rfl) ?_
 refine WL.know 12 (.bool (decide (h ≥ 8))) (.bool false) rfl (congrArg Value.bool (by simpa using h1)) ?_
 refine WLr 4 [(16, .bool (decide (v < 0))), (15, .bool (decide (v < 0))), (14, .bool (decide (v < 0))), (13, .int .i64 v)] (fun _ => by kernel_rfl) ?_
 refine WL.know 16 (.bool (decide (v < 0))) (.bool false) rfl (congrArg Value.bool (by simpa using v0)) ?_
 refine WLr 3 [(19, .bool (decide (v ≥ 16))), (18, .bool (decide (v ≥ 16))), (17, .int .i64 v)] (fun _ => by kernel_rfl) (WLd rfl (QXn (hK6 _ _ ?_)))
 refine WC.know 19 (.bool (decide (v ≥ 16))) (.bool false) rfl (congrArg Value.bool (by simpa using v1)) ?_
 refine WCf rfl (WC.skip (QXn (hK4 _ _ ?_)))
 refine WCs (fun K7 hK8 => ?_)
 refine WCg (WLr 9 [(5, .nilIface), (4, .int .u32 (Go.bits .or .u32 (Go.bits .or .u32 167837696 (IntKind.u32.wrap ((IntKind.u32.wrap (h)) * 2 ^ 8))) (IntKind.u32.wrap (v)))), (27, .int .u32 (Go.bits .or .u32 (Go.bits .or .u32 167837696 (IntKind.u32.wrap ((IntKind.u32.wrap (h)) * 2 ^ 8))) (IntKind.u32.wrap (v)))), (26, .int .u32 (IntKind.u32.wrap (v))), (25, .int .i64 v), (24, .int .u32 (Go.bits .or .u32 167837696 (IntKind.u32.wrap ((IntKind.u32.wrap (h)) * 2 ^ 8)))), (23, .int .u32 (IntKind.u32.wrap ((IntKind.u32.wrap (h)) * 2 ^ 8))), (22, .int .u32 (IntKind.u32.wrap (h))), (21, .int .i64 h)] (fun _ => by kernel_rfl) (WLd rfl (QXn (hK8 _ _ ?_))))
 refine WC.ret ?_
 refine (hret _ _ _ rfl ?_).1
 exact ⟨by rw [← or_dip h v h0 h1 v0 v1]; rfl, hC.fr⟩

theorem Dip_no (h v : Int) (w : World) (hb : dipOk h v = false) : Calls Tryd.prog 71 #[.int .i64 h, .int .i64 v] w fun e w' => e = .returned (.tuple #[.int .u32 0, .iface 73 (.int .i64 12)]) ∧ Fr w w' [] := by
 refine enterD (n := 28) Tryd.func71 rfl rfl (Nat.le_of_ble_eq_true rfl) ?_
 intro Q0 hN hret hret'
 have hC := Cx.start w
 refine WCs (fun K1 hK2 => ?_)
 refine WCg (WLr 2 [(5, .nilIface), (4, .int .u32 0)] (fun _ => by kernel_rfl) (WLd rfl (QXn (hK2 _ _ ?_))))
 refine WCs (fun K3 hK4 => ?_)
 refine WCs (fun K5 hK6 => ?_)
 refine WCg (WLr 3 [(8, .bool (decide (h < 0))), (7, .bool (decide (h < 0))), (6, .int .i64 h)] (fun _ => by kernel_rfl) ?_)
 refine WLa 8 (decide (h < 0)) rfl (fun t7b => ?_) (fun t7b => ?_)
 ·
  have t7 : h < 0 := by have q_ := of_decide_eq_true t7b; omega
  refine WLr 11 [(19, .bool true), (18, undef), (17, undef), (16, .bool true), (15, .bool true), (14, undef), (13, undef), (12, .bool true), (11, .bool true), (10, undef), (9, undef)] (fun _ => by kernel_rfl) (WLd rfl (QXn (hK6 _ _ ?_)))
  refine WCt rfl ?_
  refine WCs (fun K8 hK9 => ?_)
  refine WCg (WLr 3 [(5, .iface 73 (.int .i64 12)), (4, .int .u32 0), (20, .iface 73 (.int .i64 12))] (fun _ => by kernel_rfl) (WLd rfl (QXn (hK9 _ _ ?_))))
  refine WC.ret ?_
  refine QXr ?_
  refine (hret _ _ _ rfl ?_).1
  exact ⟨rfl, hC.fr⟩
 ·
  have t7 : (0 : Int) ≤ h := by have q_ := of_decide_eq_false t7b; omega
  refine WLr 4 [(12, .bool (decide (h ≥ 8))), (11, .bool (decide (h ≥ 8))), (10, .bool (decide (h ≥ 8))), (9, .int .i64 h)] (fun _ => by kernel_rfl) ?_
  refine WLa 12 (decide (h ≥ 8)) rfl (fun t10b => ?_) (fun t10b => ?_)
  ·
   have t10 : (8 : Int) ≤ h := by have q_ := of_decide_eq_true t10b; omega
   refine WLr 7 [(19, .bool true), (18, undef), (17, undef), (16, .bool true), (15, .bool true), (14, undef), (13, undef)] (fun _ => by kernel_rfl) (WLd rfl (QXn (hK6 _ _ ?_)))
   refine WCt rfl ?_
   refine WCs (fun K11 hK12 => ?_)
   refine WCg (WLr 3 [(5, .iface 73 (.int .i64 12)), (4, .int .u32 0), (20, .iface 73 (.int .i64 12))] (fun _ => by kernel_rfl) (WLd rfl (QXn (hK12 _ _ ?_))))
   refine WC.ret ?_
   refine QXr ?_
   refine (hret _ _ _ rfl ?_).1
   exact ⟨rfl, hC.fr⟩
  ·
   have t10 : h < 8 := by have q_ := of_decide_eq_false t10b; omega
   refine WLr 4 [(16, .bool (decide (v < 0))), (15, .bool (decide (v < 0))), (14, .bool (decide (v < 0))), (13, .int .i64 v)] (fun _ => by kernel_rfl) ?_
   refine WLa 16 (decide (v < 0)) rfl (fun t13b => ?_) (fun t13b => ?_)
   ·
    have t13 : v < 0 := by have q_ := of_decide_eq_true t13b; omega
    refine WLr 3 [(19, .bool true), (18, undef), (17, undef)] (fun _ => by kernel_rfl) (WLd rfl (QXn (hK6 _ _ ?_)))
    refine WCt rfl ?_
    refine WCs (fun K14 hK15 => ?_)
    refine WCg (WLr 3 [(5, .iface 73 (.int .i64 12)), (4, .int .u32 0), (20, .iface 73 (.int .i64 12))] (fun _ => by kernel_rfl) (WLd rfl (QXn (hK15 _ _ ?_))))
    refine WC.ret ?_
    refine QXr ?_
    refine (hret _ _ _ rfl ?_).1
    exact ⟨rfl, hC.fr⟩
   ·
    have t13 : (0 : Int) ≤ v := by have q_ := of_decide_eq_false t13b; omega
    refine WLr 3 [(19, .bool (decide (v ≥ 16))), (18, .bool (decide (v ≥ 16))), (17, .int .i64 v)] (fun _ => by kernel_rfl) (WLd rfl (QXn (hK6 _ _ ?_)))
    refine WCa 19 (decide (v ≥ 16)) rfl (fun t16b => ?_) (fun t16b => ?_)
    ·
     have t16 : (16 : Int) ≤ v := by have q_ := of_decide_eq_true t16b; omega
     refine WCt rfl ?_
     refine WCs (fun K17 hK18 => ?_)
     refine WCg (WLr 3 [(5, .iface 73 (.int .i64 12)), (4, .int .u32 0), (20, .iface 73 (.int .i64 12))] (fun _ => by kernel_rfl) (WLd rfl (QXn (hK18 _ _ ?_))))
     refine WC.ret ?_
     refine QXr ?_
     refine (hret _ _ _ rfl ?_).1
     exact ⟨rfl, hC.fr⟩
    ·
     have t16 : v < 16 := by have q_ := of_decide_eq_false t16b; omega
     refine WCf rfl (WC.skip (QXn (hK4 _ _ ?_)))
     refine WCs (fun K19 hK20 => ?_)
     refine WCg (WLr 9 [(5, .nilIface), (4, .int .u32 (Go.bits .or .u32 (Go.bits .or .u32 167837696 (IntKind.u32.wrap ((IntKind.u32.wrap (h)) * 2 ^ 8))) (IntKind.u32.wrap (v)))), (27, .int .u32 (Go.bits .or .u32 (Go.bits .or .u32 167837696 (IntKind.u32.wrap ((IntKind.u32.wrap (h)) * 2 ^ 8))) (IntKind.u32.wrap (v)))), (26, .int .u32 (IntKind.u32.wrap (v))), (25, .int .i64 v), (24, .int .u32 (Go.bits .or .u32 167837696 (IntKind.u32.wrap ((IntKind.u32.wrap (h)) * 2 ^ 8)))), (23, .int .u32 (IntKind.u32.wrap ((IntKind.u32.wrap (h)) * 2 ^ 8))), (22, .int .u32 (IntKind.u32.wrap (h))), (21, .int .i64 h)] (fun _ => by kernel_rfl) (WLd rfl (QXn (hK20 _ _ ?_))))
     refine WC.ret ?_
     refine (hret _ _ _ rfl ?_).1
     clear hN hret hret' hK20 hK6 hK4 hK2
     exfalso; simp [dipOk] at hb; omega

def homeN (a : Int) : Int := if isHome a then 48 + (a - 167837696) / 256 else 0
def homeV (a : Int) : Int := if isHome a then (a - 167837696) % 256 else 0
theorem home_hit {a : Int} (h0 : 0 ≤ a) (h1 : a ≤ 4294967295) (hd : a / 256 % 256 < 8 ∧ a % 256 < 16) (t : 167837696 + 256 * (a / 256 % 256) + a % 256 = a) : isHome a = true ∧ homeN a = 48 + a / 256 % 256 ∧ homeV a = a % 256 := by
  have h : isHome a = true := by simp [isHome]; omega
  refine ⟨h, ?_, ?_⟩
  · simp [homeN, h]; omega
  · simp [homeV, h]; omega
theorem home_miss {a : Int} (h0 : 0 ≤ a) (h1 : a ≤ 4294967295) (hd : ¬ (a / 256 % 256 < 8 ∧ a % 256 < 16) ∨ ¬ 167837696 + 256 * (a / 256 % 256) + a % 256 = a) : isHome a = false ∧ homeN a = 0 ∧ homeV a = 0 := by
  have h : isHome a = false := by simp [isHome]; omega
  exact ⟨h, by simp [homeN, h], by simp [homeV, h]⟩
theorem Home_ct (a : Int) (w : World) (h0 : 0 ≤ a) (h1 : a ≤ 4294967295) : Calls Tryd.prog 50 #[.int .u32 a] w fun e w' => e = .returned (.tuple #[.int .i64 (homeN a), .int .i64 (homeV a), .bool (isHome a)]) ∧ Fr w w' [] := by
 refine enterD (n := 32) Tryd.func50 rfl rfl (Nat.le_of_ble_eq_true rfl) ?_
 intro Q0 hN hret hret'
 have hC := Cx.start w
 refine WCs (fun K1 hK2 => ?_)
 refine WCg (WLr 3 [(4, .bool false), (3, .int .i64 0), (2, .int .i64 0)] (fun _ => by kernel_rfl) (WLd rfl (QXn (hK2 _ _ ?_))))
 refine WCs (fun K3 hK4 => ?_)
 refine WCg (WLr 2 [(10, .int .u32 ((a : Int).fdiv (2 ^ 8))), (9, .int .u32 a)] (fun _ => by kernel_rfl) ?_)
 refine WLt (show (.int .u32 ((a : Int).fdiv (2 ^ 8)) : Value) = .int .u32 ((a : Int) / 256) from by rw [Int.fdiv_eq_ediv_of_nonneg (a : Int) (by decide)]; rfl) ?_
 refine WLr 1 [(11, .int .u32 (Go.bits .and .u32 ((a : Int) / 256) 255))] (fun _ => by kernel_rfl) ?_
 refine WLt (show (.int .u32 (Go.bits .and .u32 ((a : Int) / 256) 255) : Value) = .int .u32 (((a : Int) / 256) % 256) from by rw [and255 _ (by omega) (by omega)]) ?_
 refine WLr 1 [(12, .int .i64 (IntKind.i64.wrap (((a : Int) / 256) % 256)))] (fun _ => by kernel_rfl) ?_
 refine WLt (show (.int .i64 (IntKind.i64.wrap (((a : Int) / 256) % 256)) : Value) = .int .i64 (((a : Int) / 256) % 256) from by rw [wrap_in_i64 (((a : Int) / 256) % 256) (by omega) (by omega)]) ?_
 refine WLr 2 [(14, .int .u32 (Go.bits .and .u32 a 255)), (13, .int .u32 a)] (fun _ => by kernel_rfl) ?_
 refine WLt (show (.int .u32 (Go.bits .and .u32 a 255) : Value) = .int .u32 (a % 256) from by rw [and255 _ (by omega) (by omega)]) ?_
 refine WLr 1 [(15, .int .i64 (IntKind.i64.wrap (a % 256)))] (fun _ => by kernel_rfl) ?_
 refine WLt (show (.int .i64 (IntKind.i64.wrap (a % 256)) : Value) = .int .i64 (a % 256) from by rw [wrap_in_i64 (a % 256) (by omega) (by omega)]) ?_
 refine WLr 2 [(6, .int .i64 (a % 256)), (5, .int .i64 (((a : Int) / 256) % 256))] (fun _ => by kernel_rfl) (WLd rfl (QXn (hK4 _ _ ?_)))
 refine WCs (fun K5 hK6 => ?_)
 refine WCs (fun K7 hK8 => ?_)
 refine WCg (WLr 2 [(18, .int .i64 (a % 256)), (17, .int .i64 (((a : Int) / 256) % 256))] (fun _ => by kernel_rfl) ?_)
 by_cases hd : ((a : Int) / 256) % 256 < 8 ∧ a % 256 < 16
 ·
  refine WLc rfl rfl rfl rfl rfl (by kernel_rfl) (Dip_yes (((a : Int) / 256) % 256) (a % 256) w (by omega) hd.1 (by omega) hd.2) ?_
  rintro _ w10 ⟨rfl, hF9⟩
  refine ⟨_, rfl, ?_⟩
  have hC11 := hC.call hF9
  refine WLr 5 [(8, .nilIface), (7, .int .u32 (167837696 + 256 * (((a : Int) / 256) % 256) + (a % 256))), (21, .nilIface), (20, .int .u32 (167837696 + 256 * (((a : Int) / 256) % 256) + (a % 256))), (16, .tuple #[.int .u32 (167837696 + 256 * (((a : Int) / 256) % 256) + (a % 256)), .nilIface])] (fun _ => by kernel_rfl) (WLd rfl (QXn (hK8 _ _ ?_)))
  refine WCs (fun K12 hK13 => ?_)
  refine WCg (WLr 7 [(28, .bool ((167837696 + 256 * (((a : Int) / 256) % 256) + (a % 256)) != a)), (27, .bool ((167837696 + 256 * (((a : Int) / 256) % 256) + (a % 256)) != a)), (26, .int .u32 a), (25, .int .u32 (167837696 + 256 * (((a : Int) / 256) % 256) + (a % 256))), (24, .bool false), (23, .bool false), (22, .nilIface)] (fun _ => by kernel_rfl) (WLd rfl (QXn (hK13 _ _ ?_))))
  refine WCa 28 ((167837696 + 256 * (((a : Int) / 256) % 256) + (a % 256)) != a) rfl (fun t14b => ?_) (fun t14b => ?_)
  ·
   have t14 : (167837696 + 256 * (((a : Int) / 256) % 256) + (a % 256)) ≠ a := by simpa using t14b
   refine WCt rfl ?_
   refine WCs (fun K15 hK16 => ?_)
   refine WCg (WLr 3 [(4, .bool false), (3, .int .i64 0), (2, .int .i64 0)] (fun _ => by kernel_rfl) (WLd rfl (QXn (hK16 _ _ ?_))))
   refine WC.ret ?_
   refine QXr ?_
   refine (hret _ _ _ rfl ?_).1
   clear hN hret hret' hK16 hK13 hK8 hK6 hK4 hK2
   obtain ⟨q1, q2, q3⟩ := home_miss h0 h1 (by omega)
   exact ⟨by rw [q1, q2, q3]; rfl, hC11.fr⟩
  ·
   have t14 : (167837696 + 256 * (((a : Int) / 256) % 256) + (a % 256)) = a := by simpa using t14b
   refine WCf rfl (WC.skip (QXn (hK6 _ _ ?_)))
   refine WCs (fun K17 hK18 => ?_)
   refine WCg (WLr 2 [(30, .int .i64 (IntKind.i64.wrap (48 + (((a : Int) / 256) % 256)))), (29, .int .i64 (((a : Int) / 256) % 256))] (fun _ => by kernel_rfl) ?_)
   refine WLt (show (.int .i64 (IntKind.i64.wrap (48 + (((a : Int) / 256) % 256))) : Value) = .int .i64 (48 + (((a : Int) / 256) % 256)) from by rw [wrap_in_i64 (48 + (((a : Int) / 256) % 256)) (by omega) (by omega)]) ?_
   refine WLr 4 [(4, .bool true), (3, .int .i64 (a % 256)), (2, .int .i64 (48 + (((a : Int) / 256) % 256))), (31, .int .i64 (a % 256))] (fun _ => by kernel_rfl) (WLd rfl (QXn (hK18 _ _ ?_)))
   refine WC.ret ?_
   refine (hret _ _ _ rfl ?_).1
   clear hN hret hret' hK18 hK13 hK8 hK6 hK4 hK2
   obtain ⟨q1, q2, q3⟩ := home_hit h0 h1 hd (by omega)
   exact ⟨by rw [q1, q2, q3]; rfl, hC11.fr⟩
 ·
  refine WLc rfl rfl rfl rfl rfl (by kernel_rfl) (Dip_no (((a : Int) / 256) % 256) (a % 256) w (by simp [dipOk]; omega)) ?_
  rintro _ w20 ⟨rfl, hF19⟩
  refine ⟨_, rfl, ?_⟩
  have hC21 := hC.call hF19
  refine WLr 5 [(8, .iface 73 (.int .i64 12)), (7, .int .u32 0), (21, .iface 73 (.int .i64 12)), (20, .int .u32 0), (16, .tuple #[.int .u32 0, .iface 73 (.int .i64 12)])] (fun _ => by kernel_rfl) (WLd rfl (QXn (hK8 _ _ ?_)))
  refine WCs (fun K22 hK23 => ?_)
  refine WCg (WLr 7 [(28, .bool true), (27, undef), (26, undef), (25, undef), (24, .bool true), (23, .bool true), (22, .iface 73 (.int .i64 12))] (fun _ => by kernel_rfl) (WLd rfl (QXn (hK23 _ _ ?_))))
  refine WCt rfl ?_
  refine WCs (fun K24 hK25 => ?_)
  refine WCg (WLr 3 [(4, .bool false), (3, .int .i64 0), (2, .int .i64 0)] (fun _ => by kernel_rfl) (WLd rfl (QXn (hK25 _ _ ?_))))
  refine WC.ret ?_
  refine QXr ?_
  refine (hret _ _ _ rfl ?_).1
  clear hN hret hret' hK25 hK23 hK8 hK6 hK4 hK2
  obtain ⟨q1, q2, q3⟩ := home_miss h0 h1 (by omega)
  exact ⟨by rw [q1, q2, q3]; rfl, hC21.fr⟩

theorem IsVip_ct (a : Int) (w : World) (h0 : 0 ≤ a) (h1 : a ≤ 4294967295) : Calls Tryd.prog 51 #[.int .u32 a] w fun e w' => e = .returned (.bool (isVip a)) ∧ Fr w w' [] := by
 refine enterD (n := 20) Tryd.func51 rfl rfl (Nat.le_of_ble_eq_true rfl) ?_
 intro Q0 hN hret hret'
 have hC := Cx.start w
 refine WCs (fun K1 hK2 => ?_)
 refine WCg (WLr 1 [(2, .bool false)] (fun _ => by kernel_rfl) (WLd rfl (QXn (hK2 _ _ ?_))))
 refine WCs (fun K3 hK4 => ?_)
 refine WCg (WLr 2 [(5, .int .u32 ((a : Int).fdiv (2 ^ 24))), (4, .int .u32 a)] (fun _ => by kernel_rfl) ?_)
 refine WLt (show (.int .u32 ((a : Int).fdiv (2 ^ 24)) : Value) = .int .u32 ((a : Int) / 16777216) from by rw [Int.fdiv_eq_ediv_of_nonneg (a : Int) (by decide)]; rfl) ?_
 refine WLr 1 [(3, .int .u32 ((a : Int) / 16777216))] (fun _ => by kernel_rfl) (WLd rfl (QXn (hK4 _ _ ?_)))
 refine WCs (fun K5 hK6 => ?_)
 refine WCg (WLr 3 [(8, .bool (decide (((a : Int) / 16777216) ≥ 1))), (7, .bool (decide (((a : Int) / 16777216) ≥ 1))), (6, .int .u32 ((a : Int) / 16777216))] (fun _ => by kernel_rfl) ?_)
 refine WLa 8 (decide (((a : Int) / 16777216) ≥ 1)) rfl (fun t7b => ?_) (fun t7b => ?_)
 ·
  have t7 : (1 : Int) ≤ ((a : Int) / 16777216) := by have q_ := of_decide_eq_true t7b; omega
  refine WLr 4 [(12, .bool (decide (((a : Int) / 16777216) ≤ 223))), (11, .bool (decide (((a : Int) / 16777216) ≤ 223))), (10, .bool (decide (((a : Int) / 16777216) ≤ 223))), (9, .int .u32 ((a : Int) / 16777216))] (fun _ => by kernel_rfl) ?_
  refine WLa 12 (decide (((a : Int) / 16777216) ≤ 223)) rfl (fun t8b => ?_) (fun t8b => ?_)
  ·
   have t8 : ((a : Int) / 16777216) ≤ 223 := by have q_ := of_decide_eq_true t8b; omega
   refine WLr 4 [(16, .bool (((a : Int) / 16777216) != 10)), (15, .bool (((a : Int) / 16777216) != 10)), (14, .bool (((a : Int) / 16777216) != 10)), (13, .int .u32 ((a : Int) / 16777216))] (fun _ => by kernel_rfl) ?_
   refine WLa 16 (((a : Int) / 16777216) != 10) rfl (fun t9b => ?_) (fun t9b => ?_)
   ·
    have t9 : ((a : Int) / 16777216) ≠ 10 := by simpa using t9b
    refine WLr 4 [(2, .bool (((a : Int) / 16777216) != 127)), (19, .bool (((a : Int) / 16777216) != 127)), (18, .bool (((a : Int) / 16777216) != 127)), (17, .int .u32 ((a : Int) / 16777216))] (fun _ => by kernel_rfl) (WLd rfl (QXn (hK6 _ _ ?_)))
    refine WC.ret ?_
    refine (hret _ _ _ rfl ?_).1
    clear hN hret hret' hK6 hK4 hK2
    exact ⟨by simp [shut, isVip]; grind, hC.fr⟩
   ·
    have t9 : ((a : Int) / 16777216) = 10 := by simpa using t9b
    refine WLr 4 [(2, .bool false), (19, .bool false), (18, undef), (17, undef)] (fun _ => by kernel_rfl) (WLd rfl (QXn (hK6 _ _ ?_)))
    refine WC.ret ?_
    refine (hret _ _ _ rfl ?_).1
    clear hN hret hret' hK6 hK4 hK2
    exact ⟨by simp [shut, isVip]; grind, hC.fr⟩
  ·
   have t8 : (223 : Int) < ((a : Int) / 16777216) := by have q_ := of_decide_eq_false t8b; omega
   refine WLr 8 [(2, .bool false), (19, .bool false), (18, undef), (17, undef), (16, .bool false), (15, .bool false), (14, undef), (13, undef)] (fun _ => by kernel_rfl) (WLd rfl (QXn (hK6 _ _ ?_)))
   refine WC.ret ?_
   refine (hret _ _ _ rfl ?_).1
   clear hN hret hret' hK6 hK4 hK2
   exact ⟨by simp [shut, isVip]; grind, hC.fr⟩
 ·
  have t7 : ((a : Int) / 16777216) < 1 := by have q_ := of_decide_eq_false t7b; omega
  refine WLr 12 [(2, .bool false), (19, .bool false), (18, undef), (17, undef), (16, .bool false), (15, .bool false), (14, undef), (13, undef), (12, .bool false), (11, .bool false), (10, undef), (9, undef)] (fun _ => by kernel_rfl) (WLd rfl (QXn (hK6 _ _ ?_)))
  refine WC.ret ?_
  refine (hret _ _ _ rfl ?_).1
  clear hN hret hret' hK6 hK4 hK2
  exact ⟨by simp [shut, isVip]; grind, hC.fr⟩

structure EndV where
  dip : Int
  port : Int
  weight : Int
deriving DecidableEq
def cellsE (e : EndV) : List Value := [.int .u32 e.dip, .int .i64 e.port, .int .i64 e.weight]
theorem cellsE_len (e : EndV) : (cellsE e).length = 3 := rfl
theorem cellsE_one (e : EndV) : (cellsE e).all Value.oneCell' = true := rfl
structure CmdV where
  node : Int
  boot : Int
  seq : Int
  time : Int
  kind : Int
  svip : Int
  sproto : Int
  sport : Int
  ends : List EndV
  dip : Int
  vip : Int
  up : Bool
deriving DecidableEq
structure Cmd where
  v : CmdV
  a : Option Addr
  c : Nat
def cellsC (m : Cmd) : List Value := [.int .i64 m.v.node, .int .i64 m.v.boot, .int .i64 m.v.seq, .int .i64 m.v.time, .int .i64 m.v.kind, .int .u32 m.v.svip, .int .i64 m.v.sproto, .int .i64 m.v.sport, .slice m.a m.v.ends.length m.c, .int .u32 m.v.dip, .int .u32 m.v.vip, .bool m.v.up]
theorem cellsC_len (m : Cmd) : (cellsC m).length = 12 := rfl
def isU32 (x : Int) : Prop := 0 ≤ x ∧ x ≤ 4294967295
def isI64 (x : Int) : Prop := -9223372036854775808 ≤ x ∧ x ≤ 9223372036854775807
structure wfE (e : EndV) : Prop where
  dip : isU32 e.dip
  port : isI64 e.port
  weight : isI64 e.weight
structure wfC (v : CmdV) : Prop where
  node : isI64 v.node
  boot : isI64 v.boot
  seq : isI64 v.seq
  time : isI64 v.time
  kind : isI64 v.kind
  svip : isU32 v.svip
  sproto : isI64 v.sproto
  sport : isI64 v.sport
  dip : isU32 v.dip
  vip : isU32 v.vip
  ends : ∀ e ∈ v.ends, wfE e
def endsB (m : Cmd) : List Nat := blk (.slice m.a m.v.ends.length m.c)
structure cmdAt (w : World) (m : Cmd) : Prop where
  rd : Rd w 3 cellsE m.a m.v.ends
  wf : wfC m.v
  lim : m.v.ends.length ≤ 1099511627776
  cap : m.v.ends.length ≤ m.c
theorem cmdAt.fr {w w' : World} {m : Cmd} {G : List Nat} (h : cmdAt w m) (hf : Fr w w' G) (hd : ∀ x ∈ endsB m, x ∉ G) : cmdAt w' m :=
  ⟨h.rd.frN hf fun b off hA => hd b (by simp [endsB, blk, Value.ownBlock, hA]), h.wf, h.lim, h.cap⟩
def vals (L : List Cmd) : List CmdV := L.map (·.v)
theorem vals_len (L : List Cmd) : (vals L).length = L.length := by simp [vals]
theorem vals_snoc (L : List Cmd) (m : Cmd) : vals (L ++ [m]) = vals L ++ [m.v] := by simp [vals]
/-- a log's commands: their ends lie within R -/
structure logIn (w : World) (R : List Nat) (L : List Cmd) : Prop where
  at_ : ∀ m ∈ L, cmdAt w m
  sub : ∀ m ∈ L, ∀ x ∈ endsB m, x ∈ R
theorem logIn.fr {w w' : World} {R : List Nat} {L : List Cmd} {G : List Nat} (h : logIn w R L) (hf : Fr w w' G) (hd : ∀ x ∈ R, x ∉ G) : logIn w' R L :=
  ⟨fun m hm => (h.at_ m hm).fr hf fun x hx => hd x (h.sub m hm x hx), h.sub⟩
theorem logIn.nil (w : World) (R : List Nat) : logIn w R [] := ⟨fun _ h => (nomatch h), fun _ h => (nomatch h)⟩
theorem logIn.mono {w : World} {R R' : List Nat} {L : List Cmd} (h : logIn w R L) (hs : ∀ x ∈ R, x ∈ R') : logIn w R' L := ⟨h.at_, fun m hm x hx => hs x (h.sub m hm x hx)⟩
theorem logIn.snoc {w : World} {R : List Nat} {L : List Cmd} {m : Cmd} (h : logIn w R L) (hm : cmdAt w m) (hs : ∀ x ∈ endsB m, x ∈ R) : logIn w R (L ++ [m]) := by
  refine ⟨fun x hx => ?_, fun x hx => ?_⟩
  · rcases List.mem_append.1 hx with hx | hx
    · exact h.at_ x hx
    · rw [List.mem_singleton] at hx; subst hx; exact hm
  · rcases List.mem_append.1 hx with hx | hx
    · exact h.sub x hx
    · rw [List.mem_singleton] at hx; subst hx; exact hs
/-! ### numbers as bytes -/
def byteL (xs : List Int) : Prop := ∀ x ∈ xs, 0 ≤ x ∧ x < 256
def byB (n : Int) (k : Nat) : Int := IntKind.u64.wrap n / 256 ^ (7 - k) % 256
def numB (n : Int) : List Int := [byB n 0, byB n 1, byB n 2, byB n 3, byB n 4, byB n 5, byB n 6, byB n 7]
def valF : Int → List Int → Int
  | x, [] => x
  | x, b :: r => valF (x * 256 + b) r
/-- reads a number -/
def numR (bs : List Int) : Int := if bs.length < 8 then 0 else IntKind.i64.wrap (valF 0 (bs.take 8))
def resR (bs : List Int) : List Int := if bs.length < 8 then [] else bs.drop 8
/-! ### a log's bytes -/
def numsE (e : EndV) : List Int := [e.dip, e.port, e.weight]
def upN (b : Bool) : Int := if b then 1 else 0
def numsC (v : CmdV) : List Int := [v.node, v.boot, v.seq, v.time, v.kind, v.svip, v.sproto, v.sport, (v.ends.length : Int)] ++ v.ends.flatMap numsE ++ [v.dip, v.vip, upN v.up]
def numsL (L : List CmdV) : List Int := (L.length : Int) :: L.flatMap numsC
def bytesN (ns : List Int) : List Int := ns.flatMap numB
def bytesL (L : List CmdV) : List Int := bytesN (numsL L)
/-! ### in form -/
def mgrB (n : Int) : Bool := decide (16 ≤ n ∧ n ≤ 23)
def timB (n : Int) : Bool := decide (0 ≤ n ∧ n ≤ 1099511627776)
def goodE1 (e : EndV) : Bool := isHome e.dip && decide (0 ≤ e.port ∧ e.port ≤ 65535 ∧ 1 ≤ e.weight ∧ e.weight ≤ 16)
def goodE (es : List EndV) : Bool := decide (es.length ≤ 64) && (es.all goodE1 && decide ((es.map (·.dip)).Nodup))
def noneS (v : CmdV) : Bool := decide (v.svip = 0 ∧ v.sproto = 0 ∧ v.sport = 0 ∧ v.ends = [])
def goodK (v : CmdV) : Bool :=
  if v.kind = 1 then isVip v.svip && (decide (v.sproto = 6 ∨ v.sproto = 17) && (decide (1 ≤ v.sport ∧ v.sport ≤ 1023) && (goodE v.ends && decide (v.dip = 0 ∧ v.vip = 0 ∧ v.up = false))))
  else if v.kind = 2 then noneS v && (isHome v.dip && (v.up && isVip v.vip || !v.up && decide (v.vip = 0)))
  else if v.kind = 3 then noneS v && (isHome v.dip && decide (v.vip = 0))
  else if v.kind = 4 then noneS v && (isHome v.dip && decide (v.vip = 0 ∧ v.up = false))
  else false
def goodC (v : CmdV) : Bool := mgrB v.node && (timB v.boot && (timB v.seq && (timB v.time && goodK v)))
def idV (v : CmdV) : Int × Int × Int := (v.node, v.boot, v.seq)
def goodL (L : List CmdV) : Bool := decide (L.length ≤ 256) && (L.all goodC && decide ((L.map idV).Nodup))
theorem newF_of {w0 w : World} {F0 : List Nat} {M : List (Nat × Obj)} {Fs : List (List Nat)} {F : List Nat} (h : Cx w0 F0 w M Fs) (j : Nat) (hj : Fs[j]? = some F) (_h0 : ∀ x ∈ F0, x < w0.heap.size) (hn : ∀ q ∈ F0, q ∉ F) : ∀ x ∈ F, w0.heap.size ≤ x := fun x hx => by
  rcases h.ownF F (List.mem_of_getElem? hj) x hx with h1 | h1
  · exact absurd hx (hn x h1)
  · exact h1
def wfL (L : List CmdV) : Prop := (∀ v ∈ L, wfC v ∧ v.ends.length ≤ 1099511627776) ∧ L.length ≤ 1099511627776
/-! ### how bytes are read -/
def wrapA (n : Int) : Int := IntKind.u32.wrap n
def endR (bs : List Int) : EndV := ⟨wrapA (numR bs), numR (resR bs), numR (resR (resR bs))⟩
def endsR : Nat → Int → List Int → List EndV × List Int
  | 0, _, bs => ([], bs)
  | k + 1, n, bs => if 0 < n then (endR bs :: (endsR k (n - 1) (resR (resR (resR bs)))).1, (endsR k (n - 1) (resR (resR (resR bs)))).2) else ([], bs)
def r9 (bs : List Int) : List Int := resR (resR (resR (resR (resR (resR (resR (resR (resR bs))))))))
def n9 (bs : List Int) : Int := numR (resR (resR (resR (resR (resR (resR (resR (resR bs))))))))
def cmdP (bs : List Int) (p : List EndV × List Int) : CmdV × List Int :=
  (⟨numR bs, numR (resR bs), numR (resR (resR bs)), numR (resR (resR (resR bs))), numR (resR (resR (resR (resR bs)))), wrapA (numR (resR (resR (resR (resR (resR bs)))))), numR (resR (resR (resR (resR (resR (resR bs)))))), numR (resR (resR (resR (resR (resR (resR (resR bs))))))), p.1, wrapA (numR p.2), wrapA (numR (resR p.2)), decide (numR (resR (resR p.2)) = 1)⟩, resR (resR (resR p.2)))
def cmdR (bs : List Int) : CmdV × List Int := cmdP bs (endsR 65 (n9 bs) (r9 bs))
def logR : Nat → Int → List Int → List CmdV
  | 0, _, _ => []
  | k + 1, n, bs => if 0 < n then (cmdR bs).1 :: logR k (n - 1) (cmdR bs).2 else []
def readL (bs : List Int) : List CmdV := logR 257 (numR bs) (resR bs)
/-- what reading bytes comes to -/
def readOk (bs : List Int) : Bool := goodL (readL bs) && decide (bytesL (readL bs) = bs)
theorem err_eql (X : Operand) (c : Int) (ok : Bool) (h : decide (c = 0) = ok) (w : World) : Sem.run Tryd.prog (do eqGuard .eql 38 X (.const .nilIface) (errV 73 c) .nilIface; binOp .eql 38 (errV 73 c) .nilIface) w = .ok (.bool (ok)) w := by
  subst h
  unfold errV
  by_cases hc : c = 0
  · simp only [hc, if_true, decide_true]; cases X <;> kernel_rfl
  · simp only [hc, if_false, decide_false]; cases X <;> kernel_rfl
theorem err_neq (X : Operand) (c : Int) (ok : Bool) (h : decide (c = 0) = ok) (w : World) : Sem.run Tryd.prog (do eqGuard .neq 38 X (.const .nilIface) (errV 73 c) .nilIface; binOp .neq 38 (errV 73 c) .nilIface) w = .ok (.bool (!ok)) w := by
  subst h
  unfold errV
  by_cases hc : c = 0
  · simp only [hc, if_true, decide_true]; cases X <;> kernel_rfl
  · simp only [hc, if_false, decide_false]; cases X <;> kernel_rfl
def nodeOk (k p : Int) : Bool := if k = 0 then decide (p = 0) else if k = 16 ∨ k = 32 ∨ k = 48 then decide (0 ≤ p ∧ p < 8) else false
theorem kinds_el {k : Nat} {e : Int} (h : [(0 : Int), 16, 32, 48][k]? = some e) : (k = 0 ∧ e = 0) ∨ (k = 1 ∧ e = 16) ∨ (k = 2 ∧ e = 32) ∨ (k = 3 ∧ e = 48) := by
  match k, h with
  | 0, h => exact .inl ⟨rfl, by simpa using h.symm⟩
  | 1, h => exact .inr (.inl ⟨rfl, by simpa using h.symm⟩)
  | 2, h => exact .inr (.inr (.inl ⟨rfl, by simpa using h.symm⟩))
  | 3, h => exact .inr (.inr (.inr ⟨rfl, by simpa using h.symm⟩))
  | _ + 4, h => simp at h
def kindK (n : Int) : Int := if 16 ≤ n ∧ n ≤ 23 then 16 else if 32 ≤ n ∧ n ≤ 39 then 32 else if 48 ≤ n ∧ n ≤ 55 then 48 else 0
def kindB (n : Int) : Bool := decide (n = 0 ∨ 16 ≤ n ∧ n ≤ 23 ∨ 32 ≤ n ∧ n ≤ 39 ∨ 48 ≤ n ∧ n ≤ 55)
def kindP (n : Int) : Int := if kindB n then n - kindK n else 0
theorem kind_yes {n e : Int} (he : e = 0 ∧ n = 0 ∨ (e = 16 ∨ e = 32 ∨ e = 48) ∧ e ≤ n ∧ n < e + 8) : kindK n = e ∧ kindB n = true ∧ kindP n = n - e := by
  have h2 : kindB n = true := by unfold kindB; apply decide_eq_true; omega
  have h1 : kindK n = e := by unfold kindK; (repeat' split) <;> omega
  exact ⟨h1, h2, by unfold kindP; rw [if_pos h2, h1]⟩
theorem kind_no {n : Int} (h : kindB n = false) : kindP n = 0 ∧ kindK n = 0 := by
  have h2 := of_decide_eq_false h
  refine ⟨by unfold kindP; rw [h]; rfl, ?_⟩
  unfold kindK; (repeat' split) <;> omega
theorem Node_ct (k p : Int) (w : World) (hk : k = 0 ∨ k = 16 ∨ k = 32 ∨ k = 48) : Calls Tryd.prog 91 #[.int .i64 k, .int .i64 p] w fun e w' => e = .returned (.tuple #[.int .i64 (if nodeOk k p then k + p else 0), errV 73 (if nodeOk k p then 0 else 12)]) ∧ Fr w w' [] := by
 refine enterD (n := 25) Tryd.func91 rfl rfl (Nat.le_of_ble_eq_true rfl) ?_
 intro Q0 hN hret hret'
 have hC := Cx.start w
 refine WCs (fun K1 hK2 => ?_)
 refine WCg (WLr 2 [(5, .nilIface), (4, .int .i64 0)] (fun _ => by kernel_rfl) (WLd rfl (QXn (hK2 _ _ ?_))))
 refine WCs (fun K3 hK4 => ?_)
 refine WCs (fun K5 hK6 => ?_)
 refine WCg (WLr 1 [(6, .int .i64 k)] (fun _ => by kernel_rfl) (WLd rfl (QXn (hK6 _ _ ?_))))
 refine WC.block ?_
 refine WCs (fun K7 hK8 => ?_)
 refine WCg (WLr 2 [(7, .bool (k == 0)), (8, .bool (k == 0))] (fun _ => by kernel_rfl) (WLd rfl (QXn (hK8 _ _ ?_))))
 refine WCa 7 (k == 0) rfl (fun t9b => ?_) (fun t9b => ?_)
 ·
  have t9 : k = 0 := by simpa using t9b
  refine WCt rfl ?_
  refine WCs (fun K10 hK11 => ?_)
  refine WCg (WLr 2 [(10, .bool (p == 0)), (9, .int .i64 p)] (fun _ => by kernel_rfl) (WLd rfl (QXn (hK11 _ _ ?_))))
  refine WCa 10 (p == 0) rfl (fun t12b => ?_) (fun t12b => ?_)
  ·
   have t12 : p = 0 := by simpa using t12b
   refine WCt rfl ?_
   refine WCs (fun K13 hK14 => ?_)
   refine WCg (WLr 2 [(5, .nilIface), (4, .int .i64 0)] (fun _ => by kernel_rfl) (WLd rfl (QXn (hK14 _ _ ?_))))
   refine WC.ret ?_
   refine QXk ?_
   refine QXr ?_
   refine (hret _ _ _ rfl ?_).1
   clear hN hret hret' hK14 hK11 hK8 hK6 hK4 hK2
   have hok_ : nodeOk k p = true := by unfold nodeOk; first | (rw [if_pos (by omega)]; simp; omega) | (rw [if_neg (by omega), if_pos (by omega)]; simp; omega)
   rw [hok_]
   exact ⟨by rw [show k + p = (0 : Int) from by omega]; rfl, hC.fr⟩
  ·
   have t12 : ¬ (p = 0) := by simpa using t12b
   refine WCf rfl (WC.skip ?_)
   refine QXb ?_
   refine QXn (hK4 _ _ ?_)
   refine WCs (fun K15 hK16 => ?_)
   refine WCg (WLr 3 [(5, .iface 73 (.int .i64 12)), (4, .int .i64 0), (24, .iface 73 (.int .i64 12))] (fun _ => by kernel_rfl) (WLd rfl (QXn (hK16 _ _ ?_))))
   refine WC.ret ?_
   refine (hret _ _ _ rfl ?_).1
   clear hN hret hret' hK16 hK11 hK8 hK6 hK4 hK2
   have hok_ : nodeOk k p = false := by unfold nodeOk; first | (rw [if_pos (by omega)]; simp; omega) | (rw [if_neg (by omega), if_pos (by omega)]; simp; omega)
   rw [hok_]
   exact ⟨rfl, hC.fr⟩
 ·
  have t9 : ¬ (k = 0) := by simpa using t9b
  refine WCf rfl ?_
  refine WCs (fun K17 hK18 => ?_)
  refine WCs (fun K19 hK20 => ?_)
  refine WCg (WLr 2 [(11, .bool (k == 16)), (12, .bool (k == 16))] (fun _ => by kernel_rfl) (WLd rfl (QXn (hK20 _ _ ?_))))
  refine WCa 11 (k == 16) rfl (fun t21b => ?_) (fun t21b => ?_)
  ·
   have t21 : k = 16 := by simpa using t21b
   refine WCt rfl ?_
   refine WC.skip ?_
   refine QXn (hK18 _ _ ?_)
   refine WCt rfl ?_
   refine WCs (fun K22 hK23 => ?_)
   refine WCg (WLr 3 [(17, .bool (decide (p ≥ 0))), (16, .bool (decide (p ≥ 0))), (15, .int .i64 p)] (fun _ => by kernel_rfl) ?_)
   refine WLa 17 (decide (p ≥ 0)) rfl (fun t24b => ?_) (fun t24b => ?_)
   ·
    have t24 : (0 : Int) ≤ p := by have q_ := of_decide_eq_true t24b; omega
    refine WLr 3 [(20, .bool (decide (p < 8))), (19, .bool (decide (p < 8))), (18, .int .i64 p)] (fun _ => by kernel_rfl) (WLd rfl (QXn (hK23 _ _ ?_)))
    refine WCa 20 (decide (p < 8)) rfl (fun t25b => ?_) (fun t25b => ?_)
    ·
     have t25 : p < 8 := by have q_ := of_decide_eq_true t25b; omega
     refine WCt rfl ?_
     refine WCs (fun K26 hK27 => ?_)
     refine WCg (WLr 3 [(23, .int .i64 (IntKind.i64.wrap (k + p))), (22, .int .i64 p), (21, .int .i64 k)] (fun _ => by kernel_rfl) ?_)
     refine WLt (show (.int .i64 (IntKind.i64.wrap (k + p)) : Value) = .int .i64 (k + p) from by rw [wrap_in_i64 (k + p) (by omega) (by omega)]) ?_
     refine WLr 2 [(5, .nilIface), (4, .int .i64 (k + p))] (fun _ => by kernel_rfl) (WLd rfl (QXn (hK27 _ _ ?_)))
     refine WC.ret ?_
     refine QXk ?_
     refine QXr ?_
     refine (hret _ _ _ rfl ?_).1
     clear hN hret hret' hK27 hK23 hK20 hK18 hK8 hK6 hK4 hK2
     have hok_ : nodeOk k p = true := by unfold nodeOk; first | (rw [if_pos (by omega)]; simp; omega) | (rw [if_neg (by omega), if_pos (by omega)]; simp; omega)
     rw [hok_]
     exact ⟨rfl, hC.fr⟩
    ·
     have t25 : (8 : Int) ≤ p := by have q_ := of_decide_eq_false t25b; omega
     refine WCf rfl (WC.skip ?_)
     refine QXb ?_
     refine QXn (hK4 _ _ ?_)
     refine WCs (fun K28 hK29 => ?_)
     refine WCg (WLr 3 [(5, .iface 73 (.int .i64 12)), (4, .int .i64 0), (24, .iface 73 (.int .i64 12))] (fun _ => by kernel_rfl) (WLd rfl (QXn (hK29 _ _ ?_))))
     refine WC.ret ?_
     refine (hret _ _ _ rfl ?_).1
     clear hN hret hret' hK29 hK23 hK20 hK18 hK8 hK6 hK4 hK2
     have hok_ : nodeOk k p = false := by unfold nodeOk; first | (rw [if_pos (by omega)]; simp; omega) | (rw [if_neg (by omega), if_pos (by omega)]; simp; omega)
     rw [hok_]
     exact ⟨rfl, hC.fr⟩
   ·
    have t24 : p < 0 := by have q_ := of_decide_eq_false t24b; omega
    refine WLr 3 [(20, .bool false), (19, undef), (18, undef)] (fun _ => by kernel_rfl) (WLd rfl (QXn (hK23 _ _ ?_)))
    refine WCf rfl (WC.skip ?_)
    refine QXb ?_
    refine QXn (hK4 _ _ ?_)
    refine WCs (fun K30 hK31 => ?_)
    refine WCg (WLr 3 [(5, .iface 73 (.int .i64 12)), (4, .int .i64 0), (24, .iface 73 (.int .i64 12))] (fun _ => by kernel_rfl) (WLd rfl (QXn (hK31 _ _ ?_))))
    refine WC.ret ?_
    refine (hret _ _ _ rfl ?_).1
    clear hN hret hret' hK31 hK23 hK20 hK18 hK8 hK6 hK4 hK2
    have hok_ : nodeOk k p = false := by unfold nodeOk; first | (rw [if_pos (by omega)]; simp; omega) | (rw [if_neg (by omega), if_pos (by omega)]; simp; omega)
    rw [hok_]
    exact ⟨rfl, hC.fr⟩
  ·
   have t21 : ¬ (k = 16) := by simpa using t21b
   refine WCf rfl ?_
   refine WCs (fun K32 hK33 => ?_)
   refine WCg (WLr 2 [(11, .bool (k == 32)), (13, .bool (k == 32))] (fun _ => by kernel_rfl) (WLd rfl (QXn (hK33 _ _ ?_))))
   refine WCa 11 (k == 32) rfl (fun t34b => ?_) (fun t34b => ?_)
   ·
    have t34 : k = 32 := by simpa using t34b
    refine WCt rfl ?_
    refine WC.skip ?_
    refine QXn (hK18 _ _ ?_)
    refine WCt rfl ?_
    refine WCs (fun K35 hK36 => ?_)
    refine WCg (WLr 3 [(17, .bool (decide (p ≥ 0))), (16, .bool (decide (p ≥ 0))), (15, .int .i64 p)] (fun _ => by kernel_rfl) ?_)
    refine WLa 17 (decide (p ≥ 0)) rfl (fun t37b => ?_) (fun t37b => ?_)
    ·
     have t37 : (0 : Int) ≤ p := by have q_ := of_decide_eq_true t37b; omega
     refine WLr 3 [(20, .bool (decide (p < 8))), (19, .bool (decide (p < 8))), (18, .int .i64 p)] (fun _ => by kernel_rfl) (WLd rfl (QXn (hK36 _ _ ?_)))
     refine WCa 20 (decide (p < 8)) rfl (fun t38b => ?_) (fun t38b => ?_)
     ·
      have t38 : p < 8 := by have q_ := of_decide_eq_true t38b; omega
      refine WCt rfl ?_
      refine WCs (fun K39 hK40 => ?_)
      refine WCg (WLr 3 [(23, .int .i64 (IntKind.i64.wrap (k + p))), (22, .int .i64 p), (21, .int .i64 k)] (fun _ => by kernel_rfl) ?_)
      refine WLt (show (.int .i64 (IntKind.i64.wrap (k + p)) : Value) = .int .i64 (k + p) from by rw [wrap_in_i64 (k + p) (by omega) (by omega)]) ?_
      refine WLr 2 [(5, .nilIface), (4, .int .i64 (k + p))] (fun _ => by kernel_rfl) (WLd rfl (QXn (hK40 _ _ ?_)))
      refine WC.ret ?_
      refine QXk ?_
      refine QXr ?_
      refine (hret _ _ _ rfl ?_).1
      clear hN hret hret' hK40 hK36 hK33 hK20 hK18 hK8 hK6 hK4 hK2
      have hok_ : nodeOk k p = true := by unfold nodeOk; first | (rw [if_pos (by omega)]; simp; omega) | (rw [if_neg (by omega), if_pos (by omega)]; simp; omega)
      rw [hok_]
      exact ⟨rfl, hC.fr⟩
     ·
      have t38 : (8 : Int) ≤ p := by have q_ := of_decide_eq_false t38b; omega
      refine WCf rfl (WC.skip ?_)
      refine QXb ?_
      refine QXn (hK4 _ _ ?_)
      refine WCs (fun K41 hK42 => ?_)
      refine WCg (WLr 3 [(5, .iface 73 (.int .i64 12)), (4, .int .i64 0), (24, .iface 73 (.int .i64 12))] (fun _ => by kernel_rfl) (WLd rfl (QXn (hK42 _ _ ?_))))
      refine WC.ret ?_
      refine (hret _ _ _ rfl ?_).1
      clear hN hret hret' hK42 hK36 hK33 hK20 hK18 hK8 hK6 hK4 hK2
      have hok_ : nodeOk k p = false := by unfold nodeOk; first | (rw [if_pos (by omega)]; simp; omega) | (rw [if_neg (by omega), if_pos (by omega)]; simp; omega)
      rw [hok_]
      exact ⟨rfl, hC.fr⟩
    ·
     have t37 : p < 0 := by have q_ := of_decide_eq_false t37b; omega
     refine WLr 3 [(20, .bool false), (19, undef), (18, undef)] (fun _ => by kernel_rfl) (WLd rfl (QXn (hK36 _ _ ?_)))
     refine WCf rfl (WC.skip ?_)
     refine QXb ?_
     refine QXn (hK4 _ _ ?_)
     refine WCs (fun K43 hK44 => ?_)
     refine WCg (WLr 3 [(5, .iface 73 (.int .i64 12)), (4, .int .i64 0), (24, .iface 73 (.int .i64 12))] (fun _ => by kernel_rfl) (WLd rfl (QXn (hK44 _ _ ?_))))
     refine WC.ret ?_
     refine (hret _ _ _ rfl ?_).1
     clear hN hret hret' hK44 hK36 hK33 hK20 hK18 hK8 hK6 hK4 hK2
     have hok_ : nodeOk k p = false := by unfold nodeOk; first | (rw [if_pos (by omega)]; simp; omega) | (rw [if_neg (by omega), if_pos (by omega)]; simp; omega)
     rw [hok_]
     exact ⟨rfl, hC.fr⟩
   ·
    have t34 : ¬ (k = 32) := by simpa using t34b
    refine WCf rfl ?_
    refine WCg (WLr 2 [(11, .bool (k == 48)), (14, .bool (k == 48))] (fun _ => by kernel_rfl) (WLd rfl (QXn (hK18 _ _ ?_))))
    refine WCa 11 (k == 48) rfl (fun t45b => ?_) (fun t45b => ?_)
    ·
     have t45 : k = 48 := by simpa using t45b
     refine WCt rfl ?_
     refine WCs (fun K46 hK47 => ?_)
     refine WCg (WLr 3 [(17, .bool (decide (p ≥ 0))), (16, .bool (decide (p ≥ 0))), (15, .int .i64 p)] (fun _ => by kernel_rfl) ?_)
     refine WLa 17 (decide (p ≥ 0)) rfl (fun t48b => ?_) (fun t48b => ?_)
     ·
      have t48 : (0 : Int) ≤ p := by have q_ := of_decide_eq_true t48b; omega
      refine WLr 3 [(20, .bool (decide (p < 8))), (19, .bool (decide (p < 8))), (18, .int .i64 p)] (fun _ => by kernel_rfl) (WLd rfl (QXn (hK47 _ _ ?_)))
      refine WCa 20 (decide (p < 8)) rfl (fun t49b => ?_) (fun t49b => ?_)
      ·
       have t49 : p < 8 := by have q_ := of_decide_eq_true t49b; omega
       refine WCt rfl ?_
       refine WCs (fun K50 hK51 => ?_)
       refine WCg (WLr 3 [(23, .int .i64 (IntKind.i64.wrap (k + p))), (22, .int .i64 p), (21, .int .i64 k)] (fun _ => by kernel_rfl) ?_)
       refine WLt (show (.int .i64 (IntKind.i64.wrap (k + p)) : Value) = .int .i64 (k + p) from by rw [wrap_in_i64 (k + p) (by omega) (by omega)]) ?_
       refine WLr 2 [(5, .nilIface), (4, .int .i64 (k + p))] (fun _ => by kernel_rfl) (WLd rfl (QXn (hK51 _ _ ?_)))
       refine WC.ret ?_
       refine QXk ?_
       refine QXr ?_
       refine (hret _ _ _ rfl ?_).1
       clear hN hret hret' hK51 hK47 hK33 hK20 hK18 hK8 hK6 hK4 hK2
       have hok_ : nodeOk k p = true := by unfold nodeOk; first | (rw [if_pos (by omega)]; simp; omega) | (rw [if_neg (by omega), if_pos (by omega)]; simp; omega)
       rw [hok_]
       exact ⟨rfl, hC.fr⟩
      ·
       have t49 : (8 : Int) ≤ p := by have q_ := of_decide_eq_false t49b; omega
       refine WCf rfl (WC.skip ?_)
       refine QXb ?_
       refine QXn (hK4 _ _ ?_)
       refine WCs (fun K52 hK53 => ?_)
       refine WCg (WLr 3 [(5, .iface 73 (.int .i64 12)), (4, .int .i64 0), (24, .iface 73 (.int .i64 12))] (fun _ => by kernel_rfl) (WLd rfl (QXn (hK53 _ _ ?_))))
       refine WC.ret ?_
       refine (hret _ _ _ rfl ?_).1
       clear hN hret hret' hK53 hK47 hK33 hK20 hK18 hK8 hK6 hK4 hK2
       have hok_ : nodeOk k p = false := by unfold nodeOk; first | (rw [if_pos (by omega)]; simp; omega) | (rw [if_neg (by omega), if_pos (by omega)]; simp; omega)
       rw [hok_]
       exact ⟨rfl, hC.fr⟩
     ·
      have t48 : p < 0 := by have q_ := of_decide_eq_false t48b; omega
      refine WLr 3 [(20, .bool false), (19, undef), (18, undef)] (fun _ => by kernel_rfl) (WLd rfl (QXn (hK47 _ _ ?_)))
      refine WCf rfl (WC.skip ?_)
      refine QXb ?_
      refine QXn (hK4 _ _ ?_)
      refine WCs (fun K54 hK55 => ?_)
      refine WCg (WLr 3 [(5, .iface 73 (.int .i64 12)), (4, .int .i64 0), (24, .iface 73 (.int .i64 12))] (fun _ => by kernel_rfl) (WLd rfl (QXn (hK55 _ _ ?_))))
      refine WC.ret ?_
      refine (hret _ _ _ rfl ?_).1
      clear hN hret hret' hK55 hK47 hK33 hK20 hK18 hK8 hK6 hK4 hK2
      have hok_ : nodeOk k p = false := by unfold nodeOk; first | (rw [if_pos (by omega)]; simp; omega) | (rw [if_neg (by omega), if_pos (by omega)]; simp; omega)
      rw [hok_]
      exact ⟨rfl, hC.fr⟩
    ·
     have t45 : ¬ (k = 48) := by simpa using t45b
     refine WCf rfl (WC.skip ?_)
     refine QXb ?_
     refine QXn (hK4 _ _ ?_)
     refine WCs (fun K56 hK57 => ?_)
     refine WCg (WLr 3 [(5, .iface 73 (.int .i64 12)), (4, .int .i64 0), (24, .iface 73 (.int .i64 12))] (fun _ => by kernel_rfl) (WLd rfl (QXn (hK57 _ _ ?_))))
     refine WC.ret ?_
     refine (hret _ _ _ rfl ?_).1
     clear hN hret hret' hK57 hK33 hK20 hK18 hK8 hK6 hK4 hK2
     have hok_ : nodeOk k p = false := by unfold nodeOk; first | (rw [if_pos (by omega)]; simp; omega) | (rw [if_neg (by omega), if_pos (by omega)]; simp; omega)
     rw [hok_]
     exact ⟨rfl, hC.fr⟩

theorem Kind_ct (node : Int) (w : World) (hw : isI64 node) : Calls Tryd.prog 75 #[.int .i64 node] w fun e w' => e = .returned (.tuple #[.int .i64 (kindK node), .int .i64 (kindP node), .bool (kindB node)]) ∧ Fr w w' [] := by
 refine enterD (n := 37) Tryd.func75 rfl rfl (Nat.le_of_ble_eq_true rfl) ?_
 intro Q0 hN hret hret'
 obtain ⟨hw0_, hw1_⟩ := hw
 have hC := Cx.start w
 refine WCs (fun K1 hK2 => ?_)
 refine WCg (WLr 3 [(4, .bool false), (3, .int .i64 0), (2, .int .i64 0)] (fun _ => by kernel_rfl) (WLd rfl (QXn (hK2 _ _ ?_))))
 refine WCs (fun K3 hK4 => ?_)
 refine WCs (fun K5 hK6 => ?_)
 refine WCg (WLr 2 [(10, .int .i64 0), (9, .agg #[.int .i64 0, .int .i64 16, .int .i64 32, .int .i64 48])] (fun _ => by kernel_rfl) (WLd rfl (QXn (hK6 _ _ ?_))))
 refine WC.block ?_
 refine WC.loop (fun m_ E_ w_ => ∃ (k : Nat), m_ = 4 - k ∧ E_ = [(0, .int .i64 node), (9, .agg ([(0 : Int), 16, 32, 48].flatMap (Go.Tw.encI .i64)).toArray), (10, .int .i64 (k : Int))] ∧ Cx w [] w_ [] [] ∧ (k ≤ 4 ∧ (1 ≤ k → node ≠ 0) ∧ (2 ≤ k → ¬ (16 ≤ node ∧ node < 24)) ∧ (3 ≤ k → ¬ (32 ≤ node ∧ node < 40)) ∧ (4 ≤ k → ¬ (48 ≤ node ∧ node < 56)))) ⟨_, _, ⟨0, rfl, rfl, hC, by omega, by omega, by omega, by omega, by omega⟩, sub_of ⟨rfl, rfl, rfl, trivial⟩⟩ (fun m10 E_ w11 K7 hK8 hI9 => ?_)
 obtain ⟨k, rfl, rfl, hC12, hk, hk1, hk2, hk3, hk4⟩ := hI9
 have hl4_ : ([(0 : Int), 16, 32, 48]).length = 4 := rfl
 refine WCs (fun K13 hK14 => ?_)
 refine WCg (WLr 1 [(11, .bool (decide ((k : Int) < 4)))] (fun _ => by kernel_rfl) (WLd rfl (QXn (hK14 _ _ ?_))))
 refine WCs (fun K15 hK16 => ?_)
 refine WCa 11 (decide ((k : Int) < 4)) rfl (fun t17b => ?_) (fun t17b => ?_)
 ·
  have t17 : (k : Int) < 4 := by have q_ := of_decide_eq_true t17b; omega
  refine WCt rfl ?_
  refine WC.skip ?_
  refine QXn (hK16 _ _ ?_)
  refine WCs (fun K18 hK19 => ?_)
  refine WC.block ?_
  refine WCs (fun K20 hK21 => ?_)
  refine WCg ?_
  obtain ⟨e22, he23⟩ := get_some (xs := [(0 : Int), 16, 32, 48]) (i := k) (by omega)
  refine WL.indexA (enc := (Go.Tw.encI .i64)) [(0 : Int), 16, 32, 48] 136 4 3 k .i64 (k : Int) e22 (.int .i64 e22) 12 (by kernel_rfl) (by kernel_rfl) (Go.Tw.encI_len _) (by kernel_rfl) (by omega) (by omega) he23 rfl ?_
  have hke_ := kinds_el he23
  refine WLr 1 [(6, .int .i64 e22)] (fun _ => by kernel_rfl) (WLd rfl (QXn (hK21 _ _ ?_)))
  refine WCs (fun K24 hK25 => ?_)
  refine WCs (fun K26 hK27 => ?_)
  refine WCg (WLr 4 [(16, .bool (decide (node < e22))), (15, .bool (decide (node < e22))), (14, .int .i64 e22), (13, .int .i64 node)] (fun _ => by kernel_rfl) ?_)
  refine WLa 16 (decide (node < e22)) rfl (fun t28b => ?_) (fun t28b => ?_)
  ·
   have t28 : node < e22 := by have q_ := of_decide_eq_true t28b; omega
   refine WLr 5 [(21, .bool true), (20, undef), (19, undef), (18, undef), (17, undef)] (fun _ => by kernel_rfl) (WLd rfl (QXn (hK27 _ _ ?_)))
   refine WCt rfl ?_
   refine WC.exit ?_
   refine QXe ?_
   refine QX.block_hit ?_
   refine QXn (hK19 _ _ ?_)
   refine WCg (WLr 1 [(36, .int .i64 (IntKind.i64.wrap ((k : Int) + 1)))] (fun _ => by kernel_rfl) ?_)
   refine WLt (show (.int .i64 (IntKind.i64.wrap ((k : Int) + 1)) : Value) = .int .i64 ((k : Int) + 1) from by rw [wrap_in_i64 ((k : Int) + 1) (by omega) (by omega)]) ?_
   refine WLr 1 [(10, .int .i64 ((k : Int) + 1))] (fun _ => by kernel_rfl) ?_
   refine WLd rfl ?_
   refine QXn ?_
   have hC29 := hC12.pick [] [] rfl rfl
   refine fun a_ ha_ => hK8 _ _ _ ?_ ⟨k + 1, rfl, rfl, hC29, by (try (split at hnk_ <;> (try split at hnk_) <;> simp at hnk_)) <;> omega, by (try (split at hnk_ <;> (try split at hnk_) <;> simp at hnk_)) <;> omega, by (try (split at hnk_ <;> (try split at hnk_) <;> simp at hnk_)) <;> omega, by (try (split at hnk_ <;> (try split at hnk_) <;> simp at hnk_)) <;> omega, by (try (split at hnk_ <;> (try split at hnk_) <;> simp at hnk_)) <;> omega⟩ a_ (ha_.weaken (sub_of ⟨rfl, rfl, rfl, trivial⟩))
   omega
  ·
   have t28 : e22 ≤ node := by have q_ := of_decide_eq_false t28b; omega
   refine WLr 3 [(19, .int .i64 (IntKind.i64.wrap (e22 + 8))), (18, .int .i64 e22), (17, .int .i64 node)] (fun _ => by kernel_rfl) ?_
   refine WLt (show (.int .i64 (IntKind.i64.wrap (e22 + 8)) : Value) = .int .i64 (e22 + 8) from by rw [wrap_in_i64 (e22 + 8) (by omega) (by omega)]) ?_
   refine WLr 2 [(21, .bool (decide (node ≥ (e22 + 8)))), (20, .bool (decide (node ≥ (e22 + 8))))] (fun _ => by kernel_rfl) (WLd rfl (QXn (hK27 _ _ ?_)))
   refine WCa 21 (decide (node ≥ (e22 + 8))) rfl (fun t30b => ?_) (fun t30b => ?_)
   ·
    have t30 : (e22 + 8) ≤ node := by have q_ := of_decide_eq_true t30b; omega
    refine WCt rfl ?_
    refine WC.exit ?_
    refine QXe ?_
    refine QX.block_hit ?_
    refine QXn (hK19 _ _ ?_)
    refine WCg (WLr 1 [(36, .int .i64 (IntKind.i64.wrap ((k : Int) + 1)))] (fun _ => by kernel_rfl) ?_)
    refine WLt (show (.int .i64 (IntKind.i64.wrap ((k : Int) + 1)) : Value) = .int .i64 ((k : Int) + 1) from by rw [wrap_in_i64 ((k : Int) + 1) (by omega) (by omega)]) ?_
    refine WLr 1 [(10, .int .i64 ((k : Int) + 1))] (fun _ => by kernel_rfl) ?_
    refine WLd rfl ?_
    refine QXn ?_
    have hC31 := hC12.pick [] [] rfl rfl
    refine fun a_ ha_ => hK8 _ _ _ ?_ ⟨k + 1, rfl, rfl, hC31, by (try (split at hnk_ <;> (try split at hnk_) <;> simp at hnk_)) <;> omega, by (try (split at hnk_ <;> (try split at hnk_) <;> simp at hnk_)) <;> omega, by (try (split at hnk_ <;> (try split at hnk_) <;> simp at hnk_)) <;> omega, by (try (split at hnk_ <;> (try split at hnk_) <;> simp at hnk_)) <;> omega, by (try (split at hnk_ <;> (try split at hnk_) <;> simp at hnk_)) <;> omega⟩ a_ (ha_.weaken (sub_of ⟨rfl, rfl, rfl, trivial⟩))
    omega
   ·
    have t30 : node < (e22 + 8) := by have q_ := of_decide_eq_false t30b; omega
    refine WCf rfl (WC.skip (QXn (hK25 _ _ ?_)))
    refine WCs (fun K32 hK33 => ?_)
    refine WCg (WLr 4 [(26, .int .i64 (IntKind.i64.wrap (node - e22))), (25, .int .i64 e22), (24, .int .i64 node), (23, .int .i64 e22)] (fun _ => by kernel_rfl) ?_)
    refine WLt (show (.int .i64 (IntKind.i64.wrap (node - e22)) : Value) = .int .i64 (node - e22) from by rw [wrap_in_i64 (node - e22) (by omega) (by omega)]) ?_
    refine WLc rfl rfl rfl rfl rfl (by kernel_rfl) (Node_ct e22 (node - e22) w11 (by omega)) ?_
    rintro _ w35 ⟨rfl, hF34⟩
    refine ⟨_, rfl, ?_⟩
    have hC36 := hC12.call hF34
    refine WLr 5 [(8, errV 73 (if nodeOk e22 (node - e22) then 0 else 12)), (7, .int .i64 (if nodeOk e22 (node - e22) then e22 + (node - e22) else 0)), (29, errV 73 (if nodeOk e22 (node - e22) then 0 else 12)), (28, .int .i64 (if nodeOk e22 (node - e22) then e22 + (node - e22) else 0)), (22, .tuple #[.int .i64 (if nodeOk e22 (node - e22) then e22 + (node - e22) else 0), errV 73 (if nodeOk e22 (node - e22) then 0 else 12)])] (fun _ => by kernel_rfl) (WLd rfl (QXn (hK33 _ _ ?_)))
    refine WCs (fun K37 hK38 => ?_)
    refine WCg (WLr 1 [(30, errV 73 (if nodeOk e22 (node - e22) then 0 else 12))] (fun _ => by kernel_rfl) ?_)
    have hr39 : ∀ w_, Sem.run Tryd.prog (do eqGuard .eql 38 (Operand.tmp 30) (Operand.const (.nilIface)) (errV 73 (if nodeOk e22 (node - e22) then 0 else 12)) (.nilIface); binOp .eql 38 (errV 73 (if nodeOk e22 (node - e22) then 0 else 12)) (.nilIface)) w_ = .ok (.bool (nodeOk e22 (node - e22))) w_ := fun w_ => (err_eql _ (if nodeOk e22 (node - e22) then 0 else 12) (nodeOk e22 (node - e22)) (by cases nodeOk e22 (node - e22) <;> rfl) _)
    refine WL.sem (do eqGuard .eql 38 (Operand.tmp 30) (Operand.const (.nilIface)) (errV 73 (if nodeOk e22 (node - e22) then 0 else 12)) (.nilIface); binOp .eql 38 (errV 73 (if nodeOk e22 (node - e22) then 0 else 12)) (.nilIface)) 31 (.bool (nodeOk e22 (node - e22))) (by kernel_rfl) (hr39 _) ?_
    refine WLd rfl (QXn (hK38 _ _ ?_))
    refine WCa 31 (nodeOk e22 (node - e22)) rfl (fun t40b => ?_) (fun t40b => ?_)
    ·
     refine WCt rfl ?_
     refine WCs (fun K41 hK42 => ?_)
     refine WCg (WLr 4 [(35, .int .i64 (IntKind.i64.wrap (node - e22))), (34, .int .i64 e22), (33, .int .i64 node), (32, .int .i64 e22)] (fun _ => by kernel_rfl) ?_)
     refine WLt (show (.int .i64 (IntKind.i64.wrap (node - e22)) : Value) = .int .i64 (node - e22) from by rw [wrap_in_i64 (node - e22) (by omega) (by omega)]) ?_
     refine WLr 3 [(4, .bool true), (3, .int .i64 (node - e22)), (2, .int .i64 e22)] (fun _ => by kernel_rfl) (WLd rfl (QXn (hK42 _ _ ?_)))
     refine WC.ret ?_
     refine QXk ?_
     refine QXr ?_
     refine QXr ?_
     refine QXk ?_
     refine QXr ?_
     refine (hret _ _ _ rfl ?_).1
     clear hN hret hret' hK42 hK38 hK33 hK27 hK25 hK21 hK19 hK16 hK14 hK6 hK4 hK2
     have hnk_ := t40b
     obtain ⟨q1_, q2_, q3_⟩ := kind_yes (n := node) (e := e22) (by unfold nodeOk at hnk_; split at hnk_ <;> (try split at hnk_) <;> simp at hnk_ <;> omega)
     exact ⟨by rw [q1_, q2_, q3_]; rfl, hC36.fr⟩
    ·
     refine WCf rfl (WC.skip ?_)
     refine QXb ?_
     refine QXn (hK19 _ _ ?_)
     refine WCg (WLr 1 [(36, .int .i64 (IntKind.i64.wrap ((k : Int) + 1)))] (fun _ => by kernel_rfl) ?_)
     refine WLt (show (.int .i64 (IntKind.i64.wrap ((k : Int) + 1)) : Value) = .int .i64 ((k : Int) + 1) from by rw [wrap_in_i64 ((k : Int) + 1) (by omega) (by omega)]) ?_
     refine WLr 1 [(10, .int .i64 ((k : Int) + 1))] (fun _ => by kernel_rfl) ?_
     refine WLd rfl ?_
     refine QXn ?_
     have hC43 := hC36.pick [] [] rfl rfl
     have hnk_ := t40b
     unfold nodeOk at hnk_
     refine fun a_ ha_ => hK8 _ _ _ ?_ ⟨k + 1, rfl, rfl, hC43, by (try (split at hnk_ <;> (try split at hnk_) <;> simp at hnk_)) <;> omega, by (try (split at hnk_ <;> (try split at hnk_) <;> simp at hnk_)) <;> omega, by (try (split at hnk_ <;> (try split at hnk_) <;> simp at hnk_)) <;> omega, by (try (split at hnk_ <;> (try split at hnk_) <;> simp at hnk_)) <;> omega, by (try (split at hnk_ <;> (try split at hnk_) <;> simp at hnk_)) <;> omega⟩ a_ (ha_.weaken (sub_of ⟨rfl, rfl, rfl, trivial⟩))
     omega
 ·
  have t17 : (4 : Int) ≤ (k : Int) := by have q_ := of_decide_eq_false t17b; omega
  refine WCf rfl ?_
  refine WC.exit ?_
  refine QXe ?_
  refine QXe ?_
  refine QX.block_hit ?_
  refine QXn (hK4 _ _ ?_)
  refine WCs (fun K44 hK45 => ?_)
  refine WCg (WLr 3 [(4, .bool false), (3, .int .i64 0), (2, .int .i64 0)] (fun _ => by kernel_rfl) (WLd rfl (QXn (hK45 _ _ ?_))))
  refine WC.ret ?_
  refine (hret _ _ _ rfl ?_).1
  clear hN hret hret' hK45 hK16 hK14 hK6 hK4 hK2
  have hb_ : kindB node = false := by unfold kindB; apply decide_eq_false; omega
  obtain ⟨q1_, q2_⟩ := kind_no hb_
  exact ⟨by rw [hb_, q1_, q2_]; rfl, hC12.fr⟩

theorem mgr_no {n : Int} (h : kindB n = false) : mgrB n = false := by
  have h1 := of_decide_eq_false h
  exact decide_eq_false (by omega)
theorem mgr_yes {n : Int} (h : kindB n = true) : (kindK n == 16) = mgrB n := by
  have h1 := of_decide_eq_true h
  unfold kindK mgrB
  rw [Bool.eq_iff_iff, decide_eq_true_eq, beq_iff_eq]
  (repeat' split) <;> omega
theorem manager_ct (node : Int) (w : World) (hw : isI64 node) : Calls Tryd.prog 58 #[.int .i64 node] w fun e w' => e = .returned (.bool (mgrB node)) ∧ Fr w w' [] := by
 refine enterD (n := 17) Tryd.func58 rfl rfl (Nat.le_of_ble_eq_true rfl) ?_
 intro Q0 hN hret hret'
 have hC := Cx.start w
 refine WCs (fun K1 hK2 => ?_)
 refine WCg (WLr 1 [(2, .bool false)] (fun _ => by kernel_rfl) (WLd rfl (QXn (hK2 _ _ ?_))))
 refine WCs (fun K3 hK4 => ?_)
 refine WCg (WLr 1 [(7, .int .i64 node)] (fun _ => by kernel_rfl) ?_)
 refine WLc rfl rfl rfl rfl rfl (by kernel_rfl) (Kind_ct node w hw) ?_
 rintro _ w6 ⟨rfl, hF5⟩
 refine ⟨_, rfl, ?_⟩
 have hC7 := hC.call hF5
 refine WLr 7 [(5, .bool (kindB node)), (4, .int .i64 (kindP node)), (3, .int .i64 (kindK node)), (11, .bool (kindB node)), (10, .int .i64 (kindP node)), (9, .int .i64 (kindK node)), (6, .tuple #[.int .i64 (kindK node), .int .i64 (kindP node), .bool (kindB node)])] (fun _ => by kernel_rfl) (WLd rfl (QXn (hK4 _ _ ?_)))
 refine WCs (fun K8 hK9 => ?_)
 refine WCg (WLr 2 [(13, .bool (kindB node)), (12, .bool (kindB node))] (fun _ => by kernel_rfl) ?_)
 refine WLa 13 (kindB node) rfl (fun t10b => ?_) (fun t10b => ?_)
 ·
  refine WLr 4 [(2, .bool ((kindK node) == 16)), (16, .bool ((kindK node) == 16)), (15, .bool ((kindK node) == 16)), (14, .int .i64 (kindK node))] (fun _ => by kernel_rfl) (WLd rfl (QXn (hK9 _ _ ?_)))
  refine WC.ret ?_
  refine (hret _ _ _ rfl ?_).1
  exact ⟨congrArg (fun b_ => Ending.returned (Value.bool b_)) (show (((kindK node) == 16) : Bool) = mgrB node from mgr_yes t10b), hC7.fr⟩
 ·
  refine WLr 4 [(2, .bool false), (16, .bool false), (15, undef), (14, undef)] (fun _ => by kernel_rfl) (WLd rfl (QXn (hK9 _ _ ?_)))
  refine WC.ret ?_
  refine (hret _ _ _ rfl ?_).1
  exact ⟨congrArg (fun b_ => Ending.returned (Value.bool b_)) (show (false : Bool) = mgrB node from (mgr_no t10b).symm), hC7.fr⟩

end Go.Proofs.YtfligklljkcbfaaDoor
