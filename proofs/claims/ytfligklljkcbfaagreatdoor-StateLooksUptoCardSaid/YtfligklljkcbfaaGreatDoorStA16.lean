/- Contracts of functions of the program, each proved by a walk through its code; conditions stand in the statements. -/
import Derived.Test.YtfligklljkcbfaaGreatDoorProg
import Derived.Test.YtfligklljkcbfaaGreatDoorTwEqN
namespace Go.Proofs.YtfligklljkcbfaaGreatDoor
set_option linter.unusedSimpArgs false
set_option linter.unusedVariables false
set_option linter.unusedSectionVars false
open Go Go.RowKit Go.Tw
set_option linter.unusedVariables false
set_option maxRecDepth 20000
def cmpI (a b : Int) : Int := if a < b then -1 else if a > b then 1 else 0
def orI : List Int → Int
  | [] => 0
  | x :: r => if x ≠ 0 then x else orI r
theorem orI_drop {xs : List Int} {k : Nat} {x : Int} (h : xs[k]? = some x) : orI (xs.drop k) = if x ≠ 0 then x else orI (xs.drop (k + 1)) := by
  obtain ⟨hk, rfl⟩ := List.getElem?_eq_some_iff.1 h
  rw [List.drop_eq_getElem_cons hk, orI]
theorem isNaN_int (x : Int) (w : World) : Calls Tryz.prog 95 #[I6 x] w fun e w' => e = .returned (.bool false) ∧ Fr w w' [] := by
 refine enterD (n := 6) Tryz.func95 rfl rfl (Nat.le_of_ble_eq_true rfl) ?_
 intro Q0 hN hret hret'
 have hC := Cx.start w
 refine WCs (fun K1 hK2 => WCg (WLq 1 [(2, .bool false)] (WLd rfl (QXn (hK2 _ _ (WCs (fun K3 hK4 => WCg (WLz 4 [(2, .bool (x != x))] (WLd rfl (QXn (hK4 _ _ (WC.ret ?_))))))))))))
 refine (hret _ _ _ rfl ?_).1
 exact ⟨by simp [shut], hC.fr⟩

theorem compare_int (x y : Int) (w : World) : Calls Tryz.prog 69 #[I6 x, I6 y] w fun e w' => e = .returned (I6 (cmpI x y)) ∧ Fr w w' [] := by
 refine enterD (n := 20) Tryz.func69 rfl rfl (Nat.le_of_ble_eq_true rfl) ?_
 intro Q0 hN hret hret'
 have hC := Cx.start w
 refine WCs (fun K1 hK2 => WCg (WLq 1 [(4, I6 0)] (WLd rfl (QXn (hK2 _ _ (WCs (fun K3 hK4 => WCg (WLq 1 [(7, I6 x)] (WLk (isNaN_int x w) ?_)))))))))
 rintro _ w6 ⟨rfl, hF5⟩
 refine ⟨_, rfl, ?_⟩
 have hC7 := hC.call hF5
 refine WLq 1 [(5, .bool false)] (WLd rfl (QXn (hK4 _ _ (WCs (fun K8 hK9 => WCg (WLq 1 [(9, I6 y)] (WLk (isNaN_int y w6) ?_)))))))
 rintro _ ar ⟨rfl, ao⟩
 refine ⟨_, rfl, ?_⟩
 have ag := hC7.call ao
 refine WLq 1 [(6, .bool false)] (WLd rfl (QXn (hK9 _ _ (WCs (fun au aa => WCs (fun av ab => WCg (WLq 1 [(11, .bool false)] (WLd rfl (QXn (ab _ _ (WCf rfl (WC.skip (QXn (aa _ _ (WCs (fun aw ac => ?_))))))))))))))))
 refine WCs (fun ax ad => WCg (WLq 1 [(13, .bool false)] (WLd rfl (QXn (ad _ _ (WCf rfl (WC.skip (QXn (ac _ _ (WCs (fun ay ae => WCs (fun az af => WCg ?_))))))))))))
 refine WLz 3 [(16, .bool (decide (x < y)))] (WLd rfl (QXn (af _ _ (WCa 16 (decide (x < y)) rfl (fun ah => ?_) (fun ah => ?_)))))
 ·
  have ap : x < y := by have q_ := of_decide_eq_true ah; omega
  refine WCt rfl (WCs (fun aA al => WCg (WLq 1 [(4, I6 (-1))] (WLd rfl (QXn (al _ _ (WC.ret (QXr ?_))))))))
  refine (hret _ _ _ rfl ?_).1
  clear hN hret hret' al af ae ad ac ab aa hK9 hK4 hK2
  exact ⟨by simp [shut, cmpI]; try grind, ag.fr⟩
 ·
  have ap : y ≤ x := by have q_ := of_decide_eq_false ah; omega
  refine WCf rfl (WC.skip (QXn (ae _ _ (WCs (fun aB ai => WCs (fun aC aj => WCg (WLz 3 [(19, .bool (decide (x > y)))] (WLd rfl (QXn (aj _ _ (WCa 19 (decide (x > y)) rfl (fun ak => ?_) (fun ak => ?_))))))))))))
  ·
   have aq : y < x := by have q_ := of_decide_eq_true ak; omega
   refine WCt rfl (WCs (fun aD am => WCg (WLq 1 [(4, I6 1)] (WLd rfl (QXn (am _ _ (WC.ret (QXr ?_))))))))
   refine (hret _ _ _ rfl ?_).1
   clear hN hret hret' am aj ai af ae ad ac ab aa hK9 hK4 hK2
   exact ⟨by simp [shut, cmpI]; try grind, ag.fr⟩
  ·
   have aq : x ≤ y := by have q_ := of_decide_eq_false ak; omega
   refine WCf rfl (WC.skip (QXn (ai _ _ (WCs (fun aE an => WCg (WLq 1 [(4, I6 0)] (WLd rfl (QXn (an _ _ (WC.ret ?_))))))))))
   refine (hret _ _ _ rfl ?_).1
   clear hN hret hret' an aj ai af ae ad ac ab aa hK9 hK4 hK2
   exact ⟨by simp [shut, cmpI]; try grind, ag.fr⟩

theorem isNaN_api_Addr (x : Int) (w : World) : Calls Tryz.prog 94 #[U4 x] w fun e w' => e = .returned (.bool false) ∧ Fr w w' [] := by
 refine enterD (n := 6) Tryz.func94 rfl rfl (Nat.le_of_ble_eq_true rfl) ?_
 intro Q0 hN hret hret'
 have hC := Cx.start w
 refine WCs (fun K1 hK2 => WCg (WLq 1 [(2, .bool false)] (WLd rfl (QXn (hK2 _ _ (WCs (fun K3 hK4 => WCg (WLz 4 [(2, .bool (x != x))] (WLd rfl (QXn (hK4 _ _ (WC.ret ?_))))))))))))
 refine (hret _ _ _ rfl ?_).1
 exact ⟨by simp [shut], hC.fr⟩

theorem compare_api_Addr (x y : Int) (w : World) : Calls Tryz.prog 68 #[U4 x, U4 y] w fun e w' => e = .returned (I6 (cmpI x y)) ∧ Fr w w' [] := by
 refine enterD (n := 20) Tryz.func68 rfl rfl (Nat.le_of_ble_eq_true rfl) ?_
 intro Q0 hN hret hret'
 have hC := Cx.start w
 refine WCs (fun K1 hK2 => WCg (WLq 1 [(4, I6 0)] (WLd rfl (QXn (hK2 _ _ (WCs (fun K3 hK4 => WCg (WLq 1 [(7, U4 x)] (WLk (isNaN_api_Addr x w) ?_)))))))))
 rintro _ w6 ⟨rfl, hF5⟩
 refine ⟨_, rfl, ?_⟩
 have hC7 := hC.call hF5
 refine WLq 1 [(5, .bool false)] (WLd rfl (QXn (hK4 _ _ (WCs (fun K8 hK9 => WCg (WLq 1 [(9, U4 y)] (WLk (isNaN_api_Addr y w6) ?_)))))))
 rintro _ ar ⟨rfl, ao⟩
 refine ⟨_, rfl, ?_⟩
 have ag := hC7.call ao
 refine WLq 1 [(6, .bool false)] (WLd rfl (QXn (hK9 _ _ (WCs (fun au aa => WCs (fun av ab => WCg (WLq 1 [(11, .bool false)] (WLd rfl (QXn (ab _ _ (WCf rfl (WC.skip (QXn (aa _ _ (WCs (fun aw ac => ?_))))))))))))))))
 refine WCs (fun ax ad => WCg (WLq 1 [(13, .bool false)] (WLd rfl (QXn (ad _ _ (WCf rfl (WC.skip (QXn (ac _ _ (WCs (fun ay ae => WCs (fun az af => WCg ?_))))))))))))
 refine WLz 3 [(16, .bool (decide (x < y)))] (WLd rfl (QXn (af _ _ (WCa 16 (decide (x < y)) rfl (fun ah => ?_) (fun ah => ?_)))))
 ·
  have ap : x < y := by have q_ := of_decide_eq_true ah; omega
  refine WCt rfl (WCs (fun aA al => WCg (WLq 1 [(4, I6 (-1))] (WLd rfl (QXn (al _ _ (WC.ret (QXr ?_))))))))
  refine (hret _ _ _ rfl ?_).1
  clear hN hret hret' al af ae ad ac ab aa hK9 hK4 hK2
  exact ⟨by simp [shut, cmpI]; try grind, ag.fr⟩
 ·
  have ap : y ≤ x := by have q_ := of_decide_eq_false ah; omega
  refine WCf rfl (WC.skip (QXn (ae _ _ (WCs (fun aB ai => WCs (fun aC aj => WCg (WLz 3 [(19, .bool (decide (x > y)))] (WLd rfl (QXn (aj _ _ (WCa 19 (decide (x > y)) rfl (fun ak => ?_) (fun ak => ?_))))))))))))
  ·
   have aq : y < x := by have q_ := of_decide_eq_true ak; omega
   refine WCt rfl (WCs (fun aD am => WCg (WLq 1 [(4, I6 1)] (WLd rfl (QXn (am _ _ (WC.ret (QXr ?_))))))))
   refine (hret _ _ _ rfl ?_).1
   clear hN hret hret' am aj ai af ae ad ac ab aa hK9 hK4 hK2
   exact ⟨by simp [shut, cmpI]; try grind, ag.fr⟩
  ·
   have aq : x ≤ y := by have q_ := of_decide_eq_false ak; omega
   refine WCf rfl (WC.skip (QXn (ai _ _ (WCs (fun aE an => WCg (WLq 1 [(4, I6 0)] (WLd rfl (QXn (an _ _ (WC.ret ?_))))))))))
   refine (hret _ _ _ rfl ?_).1
   clear hN hret hret' an aj ai af ae ad ac ab aa hK9 hK4 hK2
   exact ⟨by simp [shut, cmpI]; try grind, ag.fr⟩

theorem or_int (A : Option Addr) (c : Nat) (xs : List Int) (w : World) (hr : Rd w 1 (encI .i64) A xs) (hm : xs.length < 2 ^ 60) : Calls Tryz.prog 67 #[.slice A xs.length c] w fun e w' => e = .returned (I6 (orI xs)) ∧ Fr w w' [] := by
 refine enterD (n := 18) Tryz.func67 rfl rfl (Nat.le_of_ble_eq_true rfl) ?_
 intro Q0 hN hret hret'
 have hC := Cx.start w
 refine WCs (fun K1 hK2 => WCg (WLq 1 [(2, I6 0)] (WLd rfl (QXn (hK2 _ _ (WCs (fun K3 hK4 => WCg (WLq 1 [(3, I6 0)] (WLd rfl (QXn (hK4 _ _ (WCs (fun K5 hK6 => WCs (fun K7 hK8 => ?_))))))))))))))
 refine WCg (WLq 3 [(8, I6 0), (7, I6 (xs.length : Int)), (6, .slice A xs.length c)] (WLd rfl (QXn (hK8 _ _ (WC.block (WC.loop (fun m_ E_ w_ => ∃ (k : Nat), m_ = xs.length - k ∧ E_ = [(0, .slice A xs.length c), (3, I6 0), (6, .slice A xs.length c), (7, I6 (xs.length : Int)), (8, I6 (k : Int))] ∧ Cx w [] w_ [] [] ∧ (k ≤ xs.length ∧ orI xs = orI (xs.drop k))) ⟨_, _, ⟨0, rfl, rfl, hC, Nat.zero_le _, rfl⟩, sub_of ⟨rfl, rfl, rfl, rfl, rfl, trivial⟩⟩ (fun m12 E_ av K9 al am => ?_)))))))
 obtain ⟨k, rfl, rfl, aa, hk, hor⟩ := am
 refine WCs (fun aw af => WCg (WLq 1 [(9, .bool (decide ((k : Int) < (xs.length : Int))))] (WLd rfl (QXn (af _ _ (WCs (fun ax ag => WCa 9 (decide ((k : Int) < (xs.length : Int))) rfl (fun ab => ?_) (fun ab => ?_))))))))
 ·
  have ar : (k : Int) < (xs.length : Int) := by have q_ := of_decide_eq_true ab; omega
  refine WCt rfl (WC.skip (QXn (ag _ _ (WCs (fun ay ah => WC.block (WCs (fun az ai => ?_)))))))
  refine WCg ?_
  obtain ⟨ac, ad⟩ := get_some (xs := xs) (i := k) (by omega)
  obtain ⟨b26, o28, an, ao⟩ := hr.at_ _ _ ad
  refine WLi A xs.length c 10 .i64 (k : Int) b26 o28 k 1 (by kernel_rfl) an (by omega) (by omega) (o28 + k) (by first | (simp; done) | omega) (WLo 3 (P0 b26 (o28 + k)) (I6 ac) 11 (run_load1 rfl (by simpa [Nat.add_assoc] using aa.fr.cell (ao 0 _ rfl) (by simp))) (WLq 1 [(5, I6 ac)] (WLd rfl (QXn (ai _ _ (WCs (fun aA aj => WCg (WLz 3 [(14, .bool (ac != 0))] (WLd rfl (QXn (aj _ _ ?_)))))))))))
  refine WCa 14 (ac != 0) rfl (fun ae => ?_) (fun ae => ?_)
  ·
   have au : ac ≠ 0 := by simpa using ae
   refine WCt rfl (WCs (fun aB ak => WCg (WLz 2 [(2, I6 ac)] (WLd rfl (QXn (ak _ _ (WC.ret (QXk ?_))))))))
   refine QXr (QXr (QXk (QXr ?_)))
   refine (hret _ _ _ rfl ?_).1
   clear hN hret hret' ak aj ai ah ag af hK8 hK6 hK4 hK2
   exact ⟨by simp [shut]; rw [hor, orI_drop ad, if_pos (by assumption)], aa.fr⟩
  ·
   have au : ac = 0 := by simpa using ae
   refine WCf rfl (WC.skip (QXb (QXn (ah _ _ (WCg (WLq 1 [(16, I6 (IntKind.i64.wrap ((k : Int) + 1)))] (WLt (show (I6 (IntKind.i64.wrap ((k : Int) + 1)) : Value) = I6 ((k : Int) + 1) from by rw [wrap_in_i64 ((k : Int) + 1) (by omega) (by omega)]) (WLq 1 [(8, I6 ((k : Int) + 1))] ?_))))))))
   refine WLd rfl (QXn ?_)
   have ap := aa.pick [] [] rfl rfl
   refine fun a_ ha_ => al _ _ _ ?_ ⟨k + 1, rfl, rfl, ap, by omega, by rw [hor, orI_drop ad]; simp [*]⟩ a_ (ha_.weaken (sub_of ⟨rfl, rfl, rfl, rfl, rfl, trivial⟩))
   omega
 ·
  have ar : (xs.length : Int) ≤ (k : Int) := by have q_ := of_decide_eq_false ab; omega
  refine WCf rfl (WC.exit (QXe (QXe (QX.block_hit (QXn (hK6 _ _ ?_))))))
  refine WCs (fun aC aq => WCg (WLz 2 [(2, I6 0)] (WLd rfl (QXn (aq _ _ (WC.ret ?_))))))
  refine (hret _ _ _ rfl ?_).1
  exact ⟨by simp [shut]; rw [hor, List.drop_of_length_le (by omega)]; simp [orI], aa.fr⟩

theorem and255 (x : Int) (h0 : 0 ≤ x) (h1 : x ≤ 4294967295) : Go.bits .and .u32 x 255 = x % 256 := by
  obtain ⟨n, rfl⟩ := Int.eq_ofNat_of_zero_le h0
  show IntKind.u32.wrap ((BitVec.ofInt 32 (n : Int) &&& BitVec.ofInt 32 255).toNat : Int) = _
  rw [BitVec.toNat_and, BitVec.ofInt_natCast]
  have h2 : (BitVec.ofInt 32 255).toNat = 2 ^ 8 - 1 := by decide
  rw [h2, Nat.and_two_pow_sub_one_eq_mod, BitVec.toNat_ofNat, Nat.mod_eq_of_lt (show n < 2 ^ 32 by omega), IntKind.wrap_u32]
  omega
theorem or_dip (h v : Int) (h0 : 0 ≤ h) (h1 : h < 8) (v0 : 0 ≤ v) (v1 : v < 16) : Go.bits .or .u32 (Go.bits .or .u32 167837696 (IntKind.u32.wrap (IntKind.u32.wrap h * 2 ^ 8))) (IntKind.u32.wrap v) = 167837696 + 256 * h + v := by
  obtain ⟨n, rfl⟩ := Int.eq_ofNat_of_zero_le h0
  obtain ⟨m, rfl⟩ := Int.eq_ofNat_of_zero_le v0
  have hn : n < 8 := by omega
  have hm : m < 16 := by omega
  have key : ∀ n : Fin 8, ∀ m : Fin 16, Go.bits .or .u32 (Go.bits .or .u32 167837696 (IntKind.u32.wrap (IntKind.u32.wrap (n.val : Int) * 2 ^ 8))) (IntKind.u32.wrap (m.val : Int)) = 167837696 + 256 * (n.val : Int) + (m.val : Int) := by decide +kernel
  exact key ⟨n, hn⟩ ⟨m, hm⟩
def dipOk (h v : Int) : Bool := decide (0 ≤ h ∧ h < 8 ∧ 0 ≤ v ∧ v < 16)
def isHome (a : Int) : Bool := decide (167837696 ≤ a ∧ (a - 167837696) / 256 < 8 ∧ (a - 167837696) % 256 < 16)
def isVip (a : Int) : Bool := decide (1 ≤ a / 16777216 ∧ a / 16777216 ≤ 223 ∧ a / 16777216 ≠ 10 ∧ a / 16777216 ≠ 127)
theorem Dip_yes (h v : Int) (w : World) (h0 : 0 ≤ h) (h1 : h < 8) (v0 : 0 ≤ v) (v1 : v < 16) : Calls Tryz.prog 139 #[I6 h, I6 v] w fun e w' => e = .returned (.tuple #[U4 (167837696 + 256 * h + v), .nilIface]) ∧ Fr w w' [] := by
 refine enterD (n := 28) Tryz.func139 rfl rfl (Nat.le_of_ble_eq_true rfl) ?_
 intro Q0 hN hret hret'
 have hC := Cx.start w
 refine WCs (fun K1 hK2 => WCg (WLq 2 [(5, .nilIface), (4, U4 0)] (WLd rfl (QXn (hK2 _ _ (WCs (fun K3 hK4 => WCs (fun K5 hK6 => WCg (WLz 3 [(8, .bool (decide (h < 0)))] ?_)))))))))
 refine WL.know 8 (.bool (decide (h < 0))) (.bool false) rfl (congrArg Value.bool (by simpa using h0)) (WLz 4 [(12, .bool (decide (h ≥ 8)))] (WL.know 12 (.bool (decide (h ≥ 8))) (.bool false) rfl (congrArg Value.bool (by simpa using h1)) (WLz 4 [(16, .bool (decide (v < 0)))] (WL.know 16 (.bool (decide (v < 0))) (.bool false) rfl (congrArg Value.bool (by simpa using v0)) (WLz 3 [(19, .bool (decide (v ≥ 16)))] (WLd rfl (QXn (hK6 _ _ ?_))))))))
 refine WC.know 19 (.bool (decide (v ≥ 16))) (.bool false) rfl (congrArg Value.bool (by simpa using v1)) (WCf rfl (WC.skip (QXn (hK4 _ _ (WCs (fun K7 hK8 => WCg (WLz 9 [(5, .nilIface), (4, U4 (Go.bits .or .u32 (Go.bits .or .u32 167837696 (IntKind.u32.wrap ((IntKind.u32.wrap (h)) * 2 ^ 8))) (IntKind.u32.wrap (v))))] (WLd rfl (QXn (hK8 _ _ (WC.ret ?_)))))))))))
 refine (hret _ _ _ rfl ?_).1
 exact ⟨by rw [← or_dip h v h0 h1 v0 v1]; rfl, hC.fr⟩

theorem Dip_no (h v : Int) (w : World) (hb : dipOk h v = false) : Calls Tryz.prog 139 #[I6 h, I6 v] w fun e w' => e = .returned (.tuple #[U4 0, .iface 118 (I6 12)]) ∧ Fr w w' [] := by
 refine enterD (n := 28) Tryz.func139 rfl rfl (Nat.le_of_ble_eq_true rfl) ?_
 intro Q0 hN hret hret'
 have hC := Cx.start w
 refine WCs (fun K1 hK2 => WCg (WLq 2 [(5, .nilIface), (4, U4 0)] (WLd rfl (QXn (hK2 _ _ (WCs (fun K3 hK4 => WCs (fun K5 hK6 => WCg (WLz 3 [(8, .bool (decide (h < 0)))] ?_)))))))))
 refine WLa 8 (decide (h < 0)) rfl (fun t7b => ?_) (fun t7b => ?_)
 ·
  have t7 : h < 0 := by have q_ := of_decide_eq_true t7b; omega
  refine WLz 11 [(19, .bool true)] (WLd rfl (QXn (hK6 _ _ (WCt rfl (WCs (fun K8 hK9 => WCg (WLz 3 [(5, .iface 118 (I6 12)), (4, U4 0)] (WLd rfl (QXn (hK9 _ _ (WC.ret ?_)))))))))))
  refine QXr ?_
  refine (hret _ _ _ rfl ?_).1
  exact ⟨rfl, hC.fr⟩
 ·
  have t7 : (0 : Int) ≤ h := by have q_ := of_decide_eq_false t7b; omega
  refine WLz 4 [(12, .bool (decide (h ≥ 8)))] (WLa 12 (decide (h ≥ 8)) rfl (fun aa => ?_) (fun aa => ?_))
  ·
   have ah : (8 : Int) ≤ h := by have q_ := of_decide_eq_true aa; omega
   refine WLz 7 [(19, .bool true)] (WLd rfl (QXn (hK6 _ _ (WCt rfl (WCs (fun ak ae => WCg (WLz 3 [(5, .iface 118 (I6 12)), (4, U4 0)] (WLd rfl (QXn (ae _ _ (WC.ret ?_)))))))))))
   refine QXr ?_
   refine (hret _ _ _ rfl ?_).1
   exact ⟨rfl, hC.fr⟩
  ·
   have ah : h < 8 := by have q_ := of_decide_eq_false aa; omega
   refine WLz 4 [(16, .bool (decide (v < 0)))] (WLa 16 (decide (v < 0)) rfl (fun ab => ?_) (fun ab => ?_))
   ·
    have ai : v < 0 := by have q_ := of_decide_eq_true ab; omega
    refine WLz 3 [(19, .bool true)] (WLd rfl (QXn (hK6 _ _ (WCt rfl (WCs (fun al af => WCg (WLz 3 [(5, .iface 118 (I6 12)), (4, U4 0)] (WLd rfl (QXn (af _ _ (WC.ret ?_)))))))))))
    refine QXr ?_
    refine (hret _ _ _ rfl ?_).1
    exact ⟨rfl, hC.fr⟩
   ·
    have ai : (0 : Int) ≤ v := by have q_ := of_decide_eq_false ab; omega
    refine WLz 3 [(19, .bool (decide (v ≥ 16)))] (WLd rfl (QXn (hK6 _ _ (WCa 19 (decide (v ≥ 16)) rfl (fun ac => ?_) (fun ac => ?_)))))
    ·
     have aj : (16 : Int) ≤ v := by have q_ := of_decide_eq_true ac; omega
     refine WCt rfl (WCs (fun am ag => WCg (WLz 3 [(5, .iface 118 (I6 12)), (4, U4 0)] (WLd rfl (QXn (ag _ _ (WC.ret (QXr ?_))))))))
     refine (hret _ _ _ rfl ?_).1
     exact ⟨rfl, hC.fr⟩
    ·
     have aj : v < 16 := by have q_ := of_decide_eq_false ac; omega
     refine WCf rfl (WC.skip (QXn (hK4 _ _ (WCs (fun an ad => WCg (WLz 9 [(5, .nilIface), (4, U4 (Go.bits .or .u32 (Go.bits .or .u32 167837696 (IntKind.u32.wrap ((IntKind.u32.wrap (h)) * 2 ^ 8))) (IntKind.u32.wrap (v))))] (WLd rfl (QXn (ad _ _ (WC.ret ?_))))))))))
     refine (hret _ _ _ rfl ?_).1
     clear hN hret hret' ad hK6 hK4 hK2
     exfalso; simp [dipOk] at hb; omega

def homeN (a : Int) : Int := if isHome a then 48 + (a - 167837696) / 256 else 0
def homeV (a : Int) : Int := if isHome a then (a - 167837696) % 256 else 0
theorem home_hit {a : Int} (h0 : 0 ≤ a) (h1 : a ≤ 4294967295) (hd : a / 256 % 256 < 8 ∧ a % 256 < 16) (t : 167837696 + 256 * (a / 256 % 256) + a % 256 = a) : isHome a = true ∧ homeN a = 48 + a / 256 % 256 ∧ homeV a = a % 256 := by
  have h : isHome a = true := by simp [isHome]; omega
  refine ⟨h, ?_, ?_⟩
  · simp [homeN, h]; omega
  · simp [homeV, h]; omega
theorem home_miss {a : Int} (h0 : 0 ≤ a) (h1 : a ≤ 4294967295) (hd : ¬ (a / 256 % 256 < 8 ∧ a % 256 < 16) ∨ ¬ 167837696 + 256 * (a / 256 % 256) + a % 256 = a) : isHome a = false ∧ homeN a = 0 ∧ homeV a = 0 := by
  have h : isHome a = false := by simp [isHome]; omega
  exact ⟨h, by simp [homeN, h], by simp [homeV, h]⟩
theorem Home_ct (a : Int) (w : World) (h0 : 0 ≤ a) (h1 : a ≤ 4294967295) : Calls Tryz.prog 108 #[U4 a] w fun e w' => e = .returned (.tuple #[I6 (homeN a), I6 (homeV a), .bool (isHome a)]) ∧ Fr w w' [] := by
 refine enterD (n := 32) Tryz.func108 rfl rfl (Nat.le_of_ble_eq_true rfl) ?_
 intro Q0 hN hret hret'
 have hC := Cx.start w
 refine WCs (fun K1 hK2 => WCg (WLq 3 [(4, .bool false), (3, I6 0), (2, I6 0)] (WLd rfl (QXn (hK2 _ _ (WCs (fun K3 hK4 => WCg (WLz 2 [(10, U4 ((a : Int).fdiv (2 ^ 8)))] (WLt (show (U4 ((a : Int).fdiv (2 ^ 8)) : Value) = U4 ((a : Int) / 256) from by rw [Int.fdiv_eq_ediv_of_nonneg (a : Int) (by decide)]; rfl) ?_)))))))))
 refine WLq 1 [(11, U4 (Go.bits .and .u32 ((a : Int) / 256) 255))] (WLt (show (U4 (Go.bits .and .u32 ((a : Int) / 256) 255) : Value) = U4 (((a : Int) / 256) % 256) from by rw [and255 _ (by omega) (by omega)]) (WLq 1 [(12, I6 (IntKind.i64.wrap (((a : Int) / 256) % 256)))] (WLt (show (I6 (IntKind.i64.wrap (((a : Int) / 256) % 256)) : Value) = I6 (((a : Int) / 256) % 256) from by rw [wrap_in_i64 (((a : Int) / 256) % 256) (by omega) (by omega)]) (WLz 2 [(14, U4 (Go.bits .and .u32 a 255))] (WLt (show (U4 (Go.bits .and .u32 a 255) : Value) = U4 (a % 256) from by rw [and255 _ (by omega) (by omega)]) ?_)))))
 refine WLq 1 [(15, I6 (IntKind.i64.wrap (a % 256)))] (WLt (show (I6 (IntKind.i64.wrap (a % 256)) : Value) = I6 (a % 256) from by rw [wrap_in_i64 (a % 256) (by omega) (by omega)]) (WLq 2 [(6, I6 (a % 256)), (5, I6 (((a : Int) / 256) % 256))] (WLd rfl (QXn (hK4 _ _ (WCs (fun K5 hK6 => WCs (fun K7 hK8 => WCg (WLq 2 [(18, I6 (a % 256)), (17, I6 (((a : Int) / 256) % 256))] ?_)))))))))
 by_cases hd : ((a : Int) / 256) % 256 < 8 ∧ a % 256 < 16
 ·
  refine WLk (Dip_yes (((a : Int) / 256) % 256) (a % 256) w (by omega) hd.1 (by omega) hd.2) ?_
  rintro _ ak ⟨rfl, hF9⟩
  refine ⟨_, rfl, ?_⟩
  have ac := hC.call hF9
  refine WLz 5 [(8, .nilIface), (7, U4 (167837696 + 256 * (((a : Int) / 256) % 256) + (a % 256)))] (WLd rfl (QXn (hK8 _ _ (WCs (fun al aa => WCg (WLz 7 [(28, .bool ((167837696 + 256 * (((a : Int) / 256) % 256) + (a % 256)) != a))] (WLd rfl (QXn (aa _ _ (WCa 28 ((167837696 + 256 * (((a : Int) / 256) % 256) + (a % 256)) != a) rfl (fun ab => ?_) (fun ab => ?_)))))))))))
  ·
   have aj : (167837696 + 256 * (((a : Int) / 256) % 256) + (a % 256)) ≠ a := by simpa using ab
   refine WCt rfl (WCs (fun am ad => WCg (WLq 3 [(4, .bool false), (3, I6 0), (2, I6 0)] (WLd rfl (QXn (ad _ _ (WC.ret (QXr ?_))))))))
   refine (hret _ _ _ rfl ?_).1
   clear hN hret hret' ad aa hK8 hK6 hK4 hK2
   obtain ⟨q1, q2, q3⟩ := home_miss h0 h1 (by omega)
   exact ⟨by rw [q1, q2, q3]; rfl, ac.fr⟩
  ·
   have aj : (167837696 + 256 * (((a : Int) / 256) % 256) + (a % 256)) = a := by simpa using ab
   refine WCf rfl (WC.skip (QXn (hK6 _ _ (WCs (fun an ae => WCg (WLz 2 [(30, I6 (IntKind.i64.wrap (48 + (((a : Int) / 256) % 256))))] (WLt (show (I6 (IntKind.i64.wrap (48 + (((a : Int) / 256) % 256))) : Value) = I6 (48 + (((a : Int) / 256) % 256)) from by rw [wrap_in_i64 (48 + (((a : Int) / 256) % 256)) (by omega) (by omega)]) (WLz 4 [(4, .bool true), (3, I6 (a % 256)), (2, I6 (48 + (((a : Int) / 256) % 256)))] (WLd rfl (QXn (ae _ _ ?_)))))))))))
   refine WC.ret ?_
   refine (hret _ _ _ rfl ?_).1
   clear hN hret hret' ae aa hK8 hK6 hK4 hK2
   obtain ⟨q1, q2, q3⟩ := home_hit h0 h1 hd (by omega)
   exact ⟨by rw [q1, q2, q3]; rfl, ac.fr⟩
 ·
  refine WLk (Dip_no (((a : Int) / 256) % 256) (a % 256) w (by simp [dipOk]; omega)) ?_
  rintro _ ao ⟨rfl, ah⟩
  refine ⟨_, rfl, ?_⟩
  have ai := hC.call ah
  refine WLz 5 [(8, .iface 118 (I6 12)), (7, U4 0)] (WLd rfl (QXn (hK8 _ _ (WCs (fun ap af => WCg (WLz 7 [(28, .bool true)] (WLd rfl (QXn (af _ _ (WCt rfl (WCs (fun aq ag => ?_))))))))))))
  refine WCg (WLq 3 [(4, .bool false), (3, I6 0), (2, I6 0)] (WLd rfl (QXn (ag _ _ (WC.ret (QXr ?_))))))
  refine (hret _ _ _ rfl ?_).1
  clear hN hret hret' ag af hK8 hK6 hK4 hK2
  obtain ⟨q1, q2, q3⟩ := home_miss h0 h1 (by omega)
  exact ⟨by rw [q1, q2, q3]; rfl, ai.fr⟩

theorem IsVip_ct (a : Int) (w : World) (h0 : 0 ≤ a) (h1 : a ≤ 4294967295) : Calls Tryz.prog 109 #[U4 a] w fun e w' => e = .returned (.bool (isVip a)) ∧ Fr w w' [] := by
 refine enterD (n := 20) Tryz.func109 rfl rfl (Nat.le_of_ble_eq_true rfl) ?_
 intro Q0 hN hret hret'
 have hC := Cx.start w
 refine WCs (fun K1 hK2 => WCg (WLq 1 [(2, .bool false)] (WLd rfl (QXn (hK2 _ _ (WCs (fun K3 hK4 => WCg (WLz 2 [(5, U4 ((a : Int).fdiv (2 ^ 24)))] (WLt (show (U4 ((a : Int).fdiv (2 ^ 24)) : Value) = U4 ((a : Int) / 16777216) from by rw [Int.fdiv_eq_ediv_of_nonneg (a : Int) (by decide)]; rfl) ?_)))))))))
 refine WLq 1 [(3, U4 ((a : Int) / 16777216))] (WLd rfl (QXn (hK4 _ _ (WCs (fun K5 hK6 => WCg (WLz 3 [(8, .bool (decide (((a : Int) / 16777216) ≥ 1)))] (WLa 8 (decide (((a : Int) / 16777216) ≥ 1)) rfl (fun t7b => ?_) (fun t7b => ?_))))))))
 ·
  have t7 : (1 : Int) ≤ ((a : Int) / 16777216) := by have q_ := of_decide_eq_true t7b; omega
  refine WLz 4 [(12, .bool (decide (((a : Int) / 16777216) ≤ 223)))] (WLa 12 (decide (((a : Int) / 16777216) ≤ 223)) rfl (fun t8b => ?_) (fun t8b => ?_))
  ·
   have t8 : ((a : Int) / 16777216) ≤ 223 := by have q_ := of_decide_eq_true t8b; omega
   refine WLz 4 [(16, .bool (((a : Int) / 16777216) != 10))] (WLa 16 (((a : Int) / 16777216) != 10) rfl (fun t9b => ?_) (fun t9b => ?_))
   ·
    have t9 : ((a : Int) / 16777216) ≠ 10 := by simpa using t9b
    refine WLz 4 [(2, .bool (((a : Int) / 16777216) != 127))] (WLd rfl (QXn (hK6 _ _ (WC.ret ?_))))
    refine (hret _ _ _ rfl ?_).1
    clear hN hret hret' hK6 hK4 hK2
    exact ⟨by simp [shut, isVip]; grind, hC.fr⟩
   ·
    have t9 : ((a : Int) / 16777216) = 10 := by simpa using t9b
    refine WLz 4 [(2, .bool false)] (WLd rfl (QXn (hK6 _ _ (WC.ret ?_))))
    refine (hret _ _ _ rfl ?_).1
    clear hN hret hret' hK6 hK4 hK2
    exact ⟨by simp [shut, isVip]; grind, hC.fr⟩
  ·
   have t8 : (223 : Int) < ((a : Int) / 16777216) := by have q_ := of_decide_eq_false t8b; omega
   refine WLz 8 [(2, .bool false)] (WLd rfl (QXn (hK6 _ _ (WC.ret ?_))))
   refine (hret _ _ _ rfl ?_).1
   clear hN hret hret' hK6 hK4 hK2
   exact ⟨by simp [shut, isVip]; grind, hC.fr⟩
 ·
  have t7 : ((a : Int) / 16777216) < 1 := by have q_ := of_decide_eq_false t7b; omega
  refine WLz 12 [(2, .bool false)] (WLd rfl (QXn (hK6 _ _ (WC.ret ?_))))
  refine (hret _ _ _ rfl ?_).1
  clear hN hret hret' hK6 hK4 hK2
  exact ⟨by simp [shut, isVip]; grind, hC.fr⟩

structure EndV where
  dip : Int
  port : Int
  weight : Int
deriving DecidableEq
def cellsE (e : EndV) : List Value := [.int .u32 e.dip, .int .i64 e.port, .int .i64 e.weight]
theorem cellsE_len (e : EndV) : (cellsE e).length = 3 := rfl
theorem cellsE_one (e : EndV) : (cellsE e).all Value.oneCell' = true := rfl
structure CmdV where
  node : Int
  boot : Int
  seq : Int
  time : Int
  kind : Int
  svip : Int
  sproto : Int
  sport : Int
  ends : List EndV
  dip : Int
  vip : Int
  up : Bool
deriving DecidableEq
structure Cmd where
  v : CmdV
  a : Option Addr
  c : Nat
def cellsC (m : Cmd) : List Value := [.int .i64 m.v.node, .int .i64 m.v.boot, .int .i64 m.v.seq, .int .i64 m.v.time, .int .i64 m.v.kind, .int .u32 m.v.svip, .int .i64 m.v.sproto, .int .i64 m.v.sport, .slice m.a m.v.ends.length m.c, .int .u32 m.v.dip, .int .u32 m.v.vip, .bool m.v.up]
theorem cellsC_len (m : Cmd) : (cellsC m).length = 12 := rfl
def isU32 (x : Int) : Prop := 0 ≤ x ∧ x ≤ 4294967295
def isI64 (x : Int) : Prop := -9223372036854775808 ≤ x ∧ x ≤ 9223372036854775807
structure wfE (e : EndV) : Prop where
  dip : isU32 e.dip
  port : isI64 e.port
  weight : isI64 e.weight
structure wfC (v : CmdV) : Prop where
  node : isI64 v.node
  boot : isI64 v.boot
  seq : isI64 v.seq
  time : isI64 v.time
  kind : isI64 v.kind
  svip : isU32 v.svip
  sproto : isI64 v.sproto
  sport : isI64 v.sport
  dip : isU32 v.dip
  vip : isU32 v.vip
  ends : ∀ e ∈ v.ends, wfE e
def endsB (m : Cmd) : List Nat := blk (.slice m.a m.v.ends.length m.c)
structure cmdAt (w : World) (m : Cmd) : Prop where
  rd : Rd w 3 cellsE m.a m.v.ends
  wf : wfC m.v
  lim : m.v.ends.length ≤ 1099511627776
  cap : m.v.ends.length ≤ m.c
theorem cmdAt.fr {w w' : World} {m : Cmd} {G : List Nat} (h : cmdAt w m) (hf : Fr w w' G) (hd : ∀ x ∈ endsB m, x ∉ G) : cmdAt w' m :=
  ⟨h.rd.frN hf fun b off hA => hd b (by simp [endsB, blk, Value.ownBlock, hA]), h.wf, h.lim, h.cap⟩
def vals (L : List Cmd) : List CmdV := L.map (·.v)
theorem vals_len (L : List Cmd) : (vals L).length = L.length := by simp [vals]
theorem vals_snoc (L : List Cmd) (m : Cmd) : vals (L ++ [m]) = vals L ++ [m.v] := by simp [vals]
/-- a log's commands: their ends lie within R -/
structure logIn (w : World) (R : List Nat) (L : List Cmd) : Prop where
  at_ : ∀ m ∈ L, cmdAt w m
  sub : ∀ m ∈ L, ∀ x ∈ endsB m, x ∈ R
theorem logIn.fr {w w' : World} {R : List Nat} {L : List Cmd} {G : List Nat} (h : logIn w R L) (hf : Fr w w' G) (hd : ∀ x ∈ R, x ∉ G) : logIn w' R L :=
  ⟨fun m hm => (h.at_ m hm).fr hf fun x hx => hd x (h.sub m hm x hx), h.sub⟩
theorem logIn.nil (w : World) (R : List Nat) : logIn w R [] := ⟨fun _ h => (nomatch h), fun _ h => (nomatch h)⟩
theorem logIn.mono {w : World} {R R' : List Nat} {L : List Cmd} (h : logIn w R L) (hs : ∀ x ∈ R, x ∈ R') : logIn w R' L := ⟨h.at_, fun m hm x hx => hs x (h.sub m hm x hx)⟩
theorem logIn.snoc {w : World} {R : List Nat} {L : List Cmd} {m : Cmd} (h : logIn w R L) (hm : cmdAt w m) (hs : ∀ x ∈ endsB m, x ∈ R) : logIn w R (L ++ [m]) := by
  refine ⟨fun x hx => ?_, fun x hx => ?_⟩
  · rcases List.mem_append.1 hx with hx | hx
    · exact h.at_ x hx
    · rw [List.mem_singleton] at hx; subst hx; exact hm
  · rcases List.mem_append.1 hx with hx | hx
    · exact h.sub x hx
    · rw [List.mem_singleton] at hx; subst hx; exact hs
/-! ### numbers as bytes -/
def byteL (xs : List Int) : Prop := ∀ x ∈ xs, 0 ≤ x ∧ x < 256
def byB (n : Int) (k : Nat) : Int := IntKind.u64.wrap n / 256 ^ (7 - k) % 256
def numB (n : Int) : List Int := [byB n 0, byB n 1, byB n 2, byB n 3, byB n 4, byB n 5, byB n 6, byB n 7]
def valF : Int → List Int → Int
  | x, [] => x
  | x, b :: r => valF (x * 256 + b) r
/-- reads a number -/
def numR (bs : List Int) : Int := if bs.length < 8 then 0 else IntKind.i64.wrap (valF 0 (bs.take 8))
def resR (bs : List Int) : List Int := if bs.length < 8 then [] else bs.drop 8
/-! ### a log's bytes -/
def numsE (e : EndV) : List Int := [e.dip, e.port, e.weight]
def upN (b : Bool) : Int := if b then 1 else 0
def numsC (v : CmdV) : List Int := [v.node, v.boot, v.seq, v.time, v.kind, v.svip, v.sproto, v.sport, (v.ends.length : Int)] ++ v.ends.flatMap numsE ++ [v.dip, v.vip, upN v.up]
def numsL (L : List CmdV) : List Int := (L.length : Int) :: L.flatMap numsC
def bytesN (ns : List Int) : List Int := ns.flatMap numB
def bytesL (L : List CmdV) : List Int := bytesN (numsL L)
/-! ### in form -/
def mgrB (n : Int) : Bool := decide (16 ≤ n ∧ n ≤ 23)
def timB (n : Int) : Bool := decide (0 ≤ n ∧ n ≤ 1099511627776)
def goodE1 (e : EndV) : Bool := isHome e.dip && decide (0 ≤ e.port ∧ e.port ≤ 65535 ∧ 1 ≤ e.weight ∧ e.weight ≤ 16)
def goodE (es : List EndV) : Bool := decide (es.length ≤ 64) && (es.all goodE1 && decide ((es.map (·.dip)).Nodup))
def noneS (v : CmdV) : Bool := decide (v.svip = 0 ∧ v.sproto = 0 ∧ v.sport = 0 ∧ v.ends = [])
def goodK (v : CmdV) : Bool :=
  if v.kind = 1 then isVip v.svip && (decide (v.sproto = 6 ∨ v.sproto = 17) && (decide (1 ≤ v.sport ∧ v.sport ≤ 1023) && (goodE v.ends && decide (v.dip = 0 ∧ v.vip = 0 ∧ v.up = false))))
  else if v.kind = 2 then noneS v && (isHome v.dip && (v.up && isVip v.vip || !v.up && decide (v.vip = 0)))
  else if v.kind = 3 then noneS v && (isHome v.dip && decide (v.vip = 0))
  else if v.kind = 4 then noneS v && (isHome v.dip && decide (v.vip = 0 ∧ v.up = false))
  else false
def goodC (v : CmdV) : Bool := mgrB v.node && (timB v.boot && (timB v.seq && (timB v.time && goodK v)))
def idV (v : CmdV) : Int × Int × Int := (v.node, v.boot, v.seq)
def goodL (L : List CmdV) : Bool := decide (L.length ≤ 256) && (L.all goodC && decide ((L.map idV).Nodup))
theorem newF_of {w0 w : World} {F0 : List Nat} {M : List (Nat × Obj)} {Fs : List (List Nat)} {F : List Nat} (h : Cx w0 F0 w M Fs) (j : Nat) (hj : Fs[j]? = some F) (_h0 : ∀ x ∈ F0, x < w0.heap.size) (hn : ∀ q ∈ F0, q ∉ F) : ∀ x ∈ F, w0.heap.size ≤ x := fun x hx => by
  rcases h.ownF F (List.mem_of_getElem? hj) x hx with h1 | h1
  · exact absurd hx (hn x h1)
  · exact h1
def wfL (L : List CmdV) : Prop := (∀ v ∈ L, wfC v ∧ v.ends.length ≤ 1099511627776) ∧ L.length ≤ 1099511627776
/-! ### how bytes are read -/
def wrapA (n : Int) : Int := IntKind.u32.wrap n
def endR (bs : List Int) : EndV := ⟨wrapA (numR bs), numR (resR bs), numR (resR (resR bs))⟩
def endsR : Nat → Int → List Int → List EndV × List Int
  | 0, _, bs => ([], bs)
  | k + 1, n, bs => if 0 < n then (endR bs :: (endsR k (n - 1) (resR (resR (resR bs)))).1, (endsR k (n - 1) (resR (resR (resR bs)))).2) else ([], bs)
def r9 (bs : List Int) : List Int := resR (resR (resR (resR (resR (resR (resR (resR (resR bs))))))))
def n9 (bs : List Int) : Int := numR (resR (resR (resR (resR (resR (resR (resR (resR bs))))))))
def cmdP (bs : List Int) (p : List EndV × List Int) : CmdV × List Int :=
  (⟨numR bs, numR (resR bs), numR (resR (resR bs)), numR (resR (resR (resR bs))), numR (resR (resR (resR (resR bs)))), wrapA (numR (resR (resR (resR (resR (resR bs)))))), numR (resR (resR (resR (resR (resR (resR bs)))))), numR (resR (resR (resR (resR (resR (resR (resR bs))))))), p.1, wrapA (numR p.2), wrapA (numR (resR p.2)), decide (numR (resR (resR p.2)) = 1)⟩, resR (resR (resR p.2)))
def cmdR (bs : List Int) : CmdV × List Int := cmdP bs (endsR 65 (n9 bs) (r9 bs))
def logR : Nat → Int → List Int → List CmdV
  | 0, _, _ => []
  | k + 1, n, bs => if 0 < n then (cmdR bs).1 :: logR k (n - 1) (cmdR bs).2 else []
def readL (bs : List Int) : List CmdV := logR 257 (numR bs) (resR bs)
/-- what reading bytes comes to -/
def readOk (bs : List Int) : Bool := goodL (readL bs) && decide (bytesL (readL bs) = bs)
theorem err_eql (X : Operand) (c : Int) (ok : Bool) (h : decide (c = 0) = ok) (w : World) : Sem.run Tryz.prog (do eqGuard .eql 97 X (.const .nilIface) (errV 118 c) .nilIface; binOp .eql 97 (errV 118 c) .nilIface) w = .ok (.bool (ok)) w := by
  subst h
  unfold errV
  by_cases hc : c = 0
  · simp only [hc, if_true, decide_true]; cases X <;> kernel_rfl
  · simp only [hc, if_false, decide_false]; cases X <;> kernel_rfl
theorem err_neq (X : Operand) (c : Int) (ok : Bool) (h : decide (c = 0) = ok) (w : World) : Sem.run Tryz.prog (do eqGuard .neq 97 X (.const .nilIface) (errV 118 c) .nilIface; binOp .neq 97 (errV 118 c) .nilIface) w = .ok (.bool (!ok)) w := by
  subst h
  unfold errV
  by_cases hc : c = 0
  · simp only [hc, if_true, decide_true]; cases X <;> kernel_rfl
  · simp only [hc, if_false, decide_false]; cases X <;> kernel_rfl
def nodeOk (k p : Int) : Bool := if k = 0 then decide (p = 0) else if k = 16 ∨ k = 32 ∨ k = 48 then decide (0 ≤ p ∧ p < 8) else false
theorem kinds_el {k : Nat} {e : Int} (h : [(0 : Int), 16, 32, 48][k]? = some e) : (k = 0 ∧ e = 0) ∨ (k = 1 ∧ e = 16) ∨ (k = 2 ∧ e = 32) ∨ (k = 3 ∧ e = 48) := by
  match k, h with
  | 0, h => exact .inl ⟨rfl, by simpa using h.symm⟩
  | 1, h => exact .inr (.inl ⟨rfl, by simpa using h.symm⟩)
  | 2, h => exact .inr (.inr (.inl ⟨rfl, by simpa using h.symm⟩))
  | 3, h => exact .inr (.inr (.inr ⟨rfl, by simpa using h.symm⟩))
  | _ + 4, h => simp at h
def kindK (n : Int) : Int := if 16 ≤ n ∧ n ≤ 23 then 16 else if 32 ≤ n ∧ n ≤ 39 then 32 else if 48 ≤ n ∧ n ≤ 55 then 48 else 0
def kindB (n : Int) : Bool := decide (n = 0 ∨ 16 ≤ n ∧ n ≤ 23 ∨ 32 ≤ n ∧ n ≤ 39 ∨ 48 ≤ n ∧ n ≤ 55)
def kindP (n : Int) : Int := if kindB n then n - kindK n else 0
theorem kind_yes {n e : Int} (he : e = 0 ∧ n = 0 ∨ (e = 16 ∨ e = 32 ∨ e = 48) ∧ e ≤ n ∧ n < e + 8) : kindK n = e ∧ kindB n = true ∧ kindP n = n - e := by
  have h2 : kindB n = true := by unfold kindB; apply decide_eq_true; omega
  have h1 : kindK n = e := by unfold kindK; (repeat' split) <;> omega
  exact ⟨h1, h2, by unfold kindP; rw [if_pos h2, h1]⟩
theorem kind_no {n : Int} (h : kindB n = false) : kindP n = 0 ∧ kindK n = 0 := by
  have h2 := of_decide_eq_false h
  refine ⟨by unfold kindP; rw [h]; rfl, ?_⟩
  unfold kindK; (repeat' split) <;> omega
theorem Node_ct (k p : Int) (w : World) (hk : k = 0 ∨ k = 16 ∨ k = 32 ∨ k = 48) : Calls Tryz.prog 142 #[I6 k, I6 p] w fun e w' => e = .returned (.tuple #[I6 (if nodeOk k p then k + p else 0), errV 118 (if nodeOk k p then 0 else 12)]) ∧ Fr w w' [] := by
 refine enterD (n := 25) Tryz.func142 rfl rfl (Nat.le_of_ble_eq_true rfl) ?_
 intro Q0 hN hret hret'
 have hC := Cx.start w
 refine WCs (fun K1 hK2 => WCg (WLq 2 [(5, .nilIface), (4, I6 0)] (WLd rfl (QXn (hK2 _ _ (WCs (fun K3 hK4 => WCs (fun K5 hK6 => WCg (WLq 1 [(6, I6 k)] (WLd rfl (QXn (hK6 _ _ (WC.block ?_)))))))))))))
 refine WCs (fun K7 hK8 => WCg (WLz 2 [(7, .bool (k == 0))] (WLd rfl (QXn (hK8 _ _ (WCa 7 (k == 0) rfl (fun t9b => ?_) (fun t9b => ?_)))))))
 ·
  have t9 : k = 0 := by simpa using t9b
  refine WCt rfl (WCs (fun aP ag => WCg (WLz 2 [(10, .bool (p == 0))] (WLd rfl (QXn (ag _ _ (WCa 10 (p == 0) rfl (fun ah => ?_) (fun ah => ?_))))))))
  ·
   have aF : p = 0 := by simpa using ah
   refine WCt rfl (WCs (fun aQ ar => WCg (WLq 2 [(5, .nilIface), (4, I6 0)] (WLd rfl (QXn (ar _ _ (WC.ret (QXk (QXr ?_)))))))))
   refine (hret _ _ _ rfl ?_).1
   clear hN hret hret' ar ag hK8 hK6 hK4 hK2
   have hok_ : nodeOk k p = true := by unfold nodeOk; first | (rw [if_pos (by omega)]; simp; omega) | (rw [if_neg (by omega), if_pos (by omega)]; simp; omega)
   rw [hok_]
   exact ⟨by rw [show k + p = (0 : Int) from by omega]; rfl, hC.fr⟩
  ·
   have aF : ¬ (p = 0) := by simpa using ah
   refine WCf rfl (WC.skip (QXb (QXn (hK4 _ _ (WCs (fun aR au => WCg (WLz 3 [(5, .iface 118 (I6 12)), (4, I6 0)] (WLd rfl (QXn (au _ _ ?_))))))))))
   refine WC.ret ?_
   refine (hret _ _ _ rfl ?_).1
   clear hN hret hret' au ag hK8 hK6 hK4 hK2
   have hok_ : nodeOk k p = false := by unfold nodeOk; first | (rw [if_pos (by omega)]; simp; omega) | (rw [if_neg (by omega), if_pos (by omega)]; simp; omega)
   rw [hok_]
   exact ⟨rfl, hC.fr⟩
 ·
  have t9 : ¬ (k = 0) := by simpa using t9b
  refine WCf rfl (WCs (fun aS aa => WCs (fun aT ab => WCg (WLz 2 [(11, .bool (k == 16))] (WLd rfl (QXn (ab _ _ (WCa 11 (k == 16) rfl (fun ai => ?_) (fun ai => ?_)))))))))
  ·
   have aG : k = 16 := by simpa using ai
   refine WCt rfl (WC.skip (QXn (aa _ _ (WCt rfl (WCs (fun aU ad => WCg ?_))))))
   refine WLz 3 [(17, .bool (decide (p ≥ 0)))] (WLa 17 (decide (p ≥ 0)) rfl (fun aj => ?_) (fun aj => ?_))
   ·
    have aH : (0 : Int) ≤ p := by have q_ := of_decide_eq_true aj; omega
    refine WLz 3 [(20, .bool (decide (p < 8)))] (WLd rfl (QXn (ad _ _ (WCa 20 (decide (p < 8)) rfl (fun ak => ?_) (fun ak => ?_)))))
    ·
     have aI : p < 8 := by have q_ := of_decide_eq_true ak; omega
     refine WCt rfl (WCs (fun aV av => WCg (WLz 3 [(23, I6 (IntKind.i64.wrap (k + p)))] (WLt (show (I6 (IntKind.i64.wrap (k + p)) : Value) = I6 (k + p) from by rw [wrap_in_i64 (k + p) (by omega) (by omega)]) (WLq 2 [(5, .nilIface), (4, I6 (k + p))] (WLd rfl (QXn (av _ _ ?_))))))))
     refine WC.ret (QXk (QXr ?_))
     refine (hret _ _ _ rfl ?_).1
     clear hN hret hret' av ad ab aa hK8 hK6 hK4 hK2
     have hok_ : nodeOk k p = true := by unfold nodeOk; first | (rw [if_pos (by omega)]; simp; omega) | (rw [if_neg (by omega), if_pos (by omega)]; simp; omega)
     rw [hok_]
     exact ⟨rfl, hC.fr⟩
    ·
     have aI : (8 : Int) ≤ p := by have q_ := of_decide_eq_false ak; omega
     refine WCf rfl (WC.skip (QXb (QXn (hK4 _ _ (WCs (fun aW aw => WCg (WLz 3 [(5, .iface 118 (I6 12)), (4, I6 0)] (WLd rfl (QXn (aw _ _ ?_))))))))))
     refine WC.ret ?_
     refine (hret _ _ _ rfl ?_).1
     clear hN hret hret' aw ad ab aa hK8 hK6 hK4 hK2
     have hok_ : nodeOk k p = false := by unfold nodeOk; first | (rw [if_pos (by omega)]; simp; omega) | (rw [if_neg (by omega), if_pos (by omega)]; simp; omega)
     rw [hok_]
     exact ⟨rfl, hC.fr⟩
   ·
    have aH : p < 0 := by have q_ := of_decide_eq_false aj; omega
    refine WLz 3 [(20, .bool false)] (WLd rfl (QXn (ad _ _ (WCf rfl (WC.skip (QXb (QXn (hK4 _ _ (WCs (fun aX ax => WCg ?_))))))))))
    refine WLz 3 [(5, .iface 118 (I6 12)), (4, I6 0)] (WLd rfl (QXn (ax _ _ (WC.ret ?_))))
    refine (hret _ _ _ rfl ?_).1
    clear hN hret hret' ax ad ab aa hK8 hK6 hK4 hK2
    have hok_ : nodeOk k p = false := by unfold nodeOk; first | (rw [if_pos (by omega)]; simp; omega) | (rw [if_neg (by omega), if_pos (by omega)]; simp; omega)
    rw [hok_]
    exact ⟨rfl, hC.fr⟩
  ·
   have aG : ¬ (k = 16) := by simpa using ai
   refine WCf rfl (WCs (fun aY ac => WCg (WLz 2 [(11, .bool (k == 32))] (WLd rfl (QXn (ac _ _ (WCa 11 (k == 32) rfl (fun al => ?_) (fun al => ?_))))))))
   ·
    have aJ : k = 32 := by simpa using al
    refine WCt rfl (WC.skip (QXn (aa _ _ (WCt rfl (WCs (fun aZ ae => WCg ?_))))))
    refine WLz 3 [(17, .bool (decide (p ≥ 0)))] (WLa 17 (decide (p ≥ 0)) rfl (fun am => ?_) (fun am => ?_))
    ·
     have aK : (0 : Int) ≤ p := by have q_ := of_decide_eq_true am; omega
     refine WLz 3 [(20, .bool (decide (p < 8)))] (WLd rfl (QXn (ae _ _ (WCa 20 (decide (p < 8)) rfl (fun an => ?_) (fun an => ?_)))))
     ·
      have aL : p < 8 := by have q_ := of_decide_eq_true an; omega
      refine WCt rfl (WCs (fun a0 ay => WCg (WLz 3 [(23, I6 (IntKind.i64.wrap (k + p)))] (WLt (show (I6 (IntKind.i64.wrap (k + p)) : Value) = I6 (k + p) from by rw [wrap_in_i64 (k + p) (by omega) (by omega)]) (WLq 2 [(5, .nilIface), (4, I6 (k + p))] (WLd rfl (QXn (ay _ _ ?_))))))))
      refine WC.ret (QXk (QXr ?_))
      refine (hret _ _ _ rfl ?_).1
      clear hN hret hret' ay ae ac ab aa hK8 hK6 hK4 hK2
      have hok_ : nodeOk k p = true := by unfold nodeOk; first | (rw [if_pos (by omega)]; simp; omega) | (rw [if_neg (by omega), if_pos (by omega)]; simp; omega)
      rw [hok_]
      exact ⟨rfl, hC.fr⟩
     ·
      have aL : (8 : Int) ≤ p := by have q_ := of_decide_eq_false an; omega
      refine WCf rfl (WC.skip (QXb (QXn (hK4 _ _ (WCs (fun a1 az => WCg (WLz 3 [(5, .iface 118 (I6 12)), (4, I6 0)] (WLd rfl (QXn (az _ _ ?_))))))))))
      refine WC.ret ?_
      refine (hret _ _ _ rfl ?_).1
      clear hN hret hret' az ae ac ab aa hK8 hK6 hK4 hK2
      have hok_ : nodeOk k p = false := by unfold nodeOk; first | (rw [if_pos (by omega)]; simp; omega) | (rw [if_neg (by omega), if_pos (by omega)]; simp; omega)
      rw [hok_]
      exact ⟨rfl, hC.fr⟩
    ·
     have aK : p < 0 := by have q_ := of_decide_eq_false am; omega
     refine WLz 3 [(20, .bool false)] (WLd rfl (QXn (ae _ _ (WCf rfl (WC.skip (QXb (QXn (hK4 _ _ (WCs (fun a2 aA => WCg ?_))))))))))
     refine WLz 3 [(5, .iface 118 (I6 12)), (4, I6 0)] (WLd rfl (QXn (aA _ _ (WC.ret ?_))))
     refine (hret _ _ _ rfl ?_).1
     clear hN hret hret' aA ae ac ab aa hK8 hK6 hK4 hK2
     have hok_ : nodeOk k p = false := by unfold nodeOk; first | (rw [if_pos (by omega)]; simp; omega) | (rw [if_neg (by omega), if_pos (by omega)]; simp; omega)
     rw [hok_]
     exact ⟨rfl, hC.fr⟩
   ·
    have aJ : ¬ (k = 32) := by simpa using al
    refine WCf rfl (WCg (WLz 2 [(11, .bool (k == 48))] (WLd rfl (QXn (aa _ _ (WCa 11 (k == 48) rfl (fun ao => ?_) (fun ao => ?_)))))))
    ·
     have aM : k = 48 := by simpa using ao
     refine WCt rfl (WCs (fun a3 af => WCg (WLz 3 [(17, .bool (decide (p ≥ 0)))] (WLa 17 (decide (p ≥ 0)) rfl (fun ap => ?_) (fun ap => ?_)))))
     ·
      have aN : (0 : Int) ≤ p := by have q_ := of_decide_eq_true ap; omega
      refine WLz 3 [(20, .bool (decide (p < 8)))] (WLd rfl (QXn (af _ _ (WCa 20 (decide (p < 8)) rfl (fun aq => ?_) (fun aq => ?_)))))
      ·
       have aO : p < 8 := by have q_ := of_decide_eq_true aq; omega
       refine WCt rfl (WCs (fun a4 aB => WCg (WLz 3 [(23, I6 (IntKind.i64.wrap (k + p)))] (WLt (show (I6 (IntKind.i64.wrap (k + p)) : Value) = I6 (k + p) from by rw [wrap_in_i64 (k + p) (by omega) (by omega)]) (WLq 2 [(5, .nilIface), (4, I6 (k + p))] (WLd rfl (QXn (aB _ _ ?_))))))))
       refine WC.ret (QXk (QXr ?_))
       refine (hret _ _ _ rfl ?_).1
       clear hN hret hret' aB af ac ab aa hK8 hK6 hK4 hK2
       have hok_ : nodeOk k p = true := by unfold nodeOk; first | (rw [if_pos (by omega)]; simp; omega) | (rw [if_neg (by omega), if_pos (by omega)]; simp; omega)
       rw [hok_]
       exact ⟨rfl, hC.fr⟩
      ·
       have aO : (8 : Int) ≤ p := by have q_ := of_decide_eq_false aq; omega
       refine WCf rfl (WC.skip (QXb (QXn (hK4 _ _ (WCs (fun a5 aC => WCg (WLz 3 [(5, .iface 118 (I6 12)), (4, I6 0)] (WLd rfl (QXn (aC _ _ ?_))))))))))
       refine WC.ret ?_
       refine (hret _ _ _ rfl ?_).1
       clear hN hret hret' aC af ac ab aa hK8 hK6 hK4 hK2
       have hok_ : nodeOk k p = false := by unfold nodeOk; first | (rw [if_pos (by omega)]; simp; omega) | (rw [if_neg (by omega), if_pos (by omega)]; simp; omega)
       rw [hok_]
       exact ⟨rfl, hC.fr⟩
     ·
      have aN : p < 0 := by have q_ := of_decide_eq_false ap; omega
      refine WLz 3 [(20, .bool false)] (WLd rfl (QXn (af _ _ (WCf rfl (WC.skip (QXb (QXn (hK4 _ _ (WCs (fun a6 aD => WCg ?_))))))))))
      refine WLz 3 [(5, .iface 118 (I6 12)), (4, I6 0)] (WLd rfl (QXn (aD _ _ (WC.ret ?_))))
      refine (hret _ _ _ rfl ?_).1
      clear hN hret hret' aD af ac ab aa hK8 hK6 hK4 hK2
      have hok_ : nodeOk k p = false := by unfold nodeOk; first | (rw [if_pos (by omega)]; simp; omega) | (rw [if_neg (by omega), if_pos (by omega)]; simp; omega)
      rw [hok_]
      exact ⟨rfl, hC.fr⟩
    ·
     have aM : ¬ (k = 48) := by simpa using ao
     refine WCf rfl (WC.skip (QXb (QXn (hK4 _ _ (WCs (fun a7 aE => WCg (WLz 3 [(5, .iface 118 (I6 12)), (4, I6 0)] (WLd rfl (QXn (aE _ _ ?_))))))))))
     refine WC.ret ?_
     refine (hret _ _ _ rfl ?_).1
     clear hN hret hret' aE ac ab aa hK8 hK6 hK4 hK2
     have hok_ : nodeOk k p = false := by unfold nodeOk; first | (rw [if_pos (by omega)]; simp; omega) | (rw [if_neg (by omega), if_pos (by omega)]; simp; omega)
     rw [hok_]
     exact ⟨rfl, hC.fr⟩

theorem Kind_ct (node : Int) (w : World) (hw : isI64 node) : Calls Tryz.prog 111 #[I6 node] w fun e w' => e = .returned (.tuple #[I6 (kindK node), I6 (kindP node), .bool (kindB node)]) ∧ Fr w w' [] := by
 refine enterD (n := 37) Tryz.func111 rfl rfl (Nat.le_of_ble_eq_true rfl) ?_
 intro Q0 hN hret hret'
 obtain ⟨hw0_, hw1_⟩ := hw
 have hC := Cx.start w
 refine WCs (fun K1 hK2 => WCg (WLq 3 [(4, .bool false), (3, I6 0), (2, I6 0)] (WLd rfl (QXn (hK2 _ _ (WCs (fun K3 hK4 => WCs (fun K5 hK6 => WCg (WLq 2 [(10, I6 0), (9, .agg #[I6 0, I6 16, I6 32, I6 48])] (WLd rfl (QXn (hK6 _ _ (WC.block ?_)))))))))))))
 refine WC.loop (fun m_ E_ w_ => ∃ (k : Nat), m_ = 4 - k ∧ E_ = [(0, I6 node), (9, .agg ([(0 : Int), 16, 32, 48].flatMap (Go.Tw.encI .i64)).toArray), (10, I6 (k : Int))] ∧ Cx w [] w_ [] [] ∧ (k ≤ 4 ∧ (1 ≤ k → node ≠ 0) ∧ (2 ≤ k → ¬ (16 ≤ node ∧ node < 24)) ∧ (3 ≤ k → ¬ (32 ≤ node ∧ node < 40)) ∧ (4 ≤ k → ¬ (48 ≤ node ∧ node < 56)))) ⟨_, _, ⟨0, rfl, rfl, hC, by omega, by omega, by omega, by omega, by omega⟩, sub_of ⟨rfl, rfl, rfl, trivial⟩⟩ (fun m10 E_ az K7 hK8 hI9 => ?_)
 obtain ⟨k, rfl, rfl, ab, hk, hk1, hk2, hk3, hk4⟩ := hI9
 have hl4_ : ([(0 : Int), 16, 32, 48]).length = 4 := rfl
 refine WCs (fun aD ad => WCg (WLq 1 [(11, .bool (decide ((k : Int) < 4)))] (WLd rfl (QXn (ad _ _ (WCs (fun aE ae => WCa 11 (decide ((k : Int) < 4)) rfl (fun af => ?_) (fun af => ?_))))))))
 ·
  have aA : (k : Int) < 4 := by have q_ := of_decide_eq_true af; omega
  refine WCt rfl (WC.skip (QXn (ae _ _ (WCs (fun aF ac => WC.block (WCs (fun aG ak => ?_)))))))
  refine WCg ?_
  obtain ⟨aa, al⟩ := get_some (xs := [(0 : Int), 16, 32, 48]) (i := k) (by omega)
  refine WL.indexA (enc := (Go.Tw.encI .i64)) [(0 : Int), 16, 32, 48] 184 4 3 k .i64 (k : Int) aa (I6 aa) 12 (by kernel_rfl) (by kernel_rfl) (Go.Tw.encI_len _) (by kernel_rfl) (by omega) (by omega) al rfl ?_
  have hke_ := kinds_el al
  refine WLq 1 [(6, I6 aa)] (WLd rfl (QXn (ak _ _ (WCs (fun aH am => WCs (fun aI ag => WCg (WLz 4 [(16, .bool (decide (node < aa)))] (WLa 16 (decide (node < aa)) rfl (fun ah => ?_) (fun ah => ?_)))))))))
  ·
   have aB : node < aa := by have q_ := of_decide_eq_true ah; omega
   refine WLz 5 [(21, .bool true)] (WLd rfl (QXn (ag _ _ (WCt rfl (WC.exit (QXe (QX.block_hit (QXn (ac _ _ ?_)))))))))
   refine WCg (WLq 1 [(36, I6 (IntKind.i64.wrap ((k : Int) + 1)))] (WLt (show (I6 (IntKind.i64.wrap ((k : Int) + 1)) : Value) = I6 ((k : Int) + 1) from by rw [wrap_in_i64 ((k : Int) + 1) (by omega) (by omega)]) (WLq 1 [(10, I6 ((k : Int) + 1))] (WLd rfl (QXn ?_)))))
   have au := ab.pick [] [] rfl rfl
   refine fun a_ ha_ => hK8 _ _ _ ?_ ⟨k + 1, rfl, rfl, au, by (try (split at hnk_ <;> (try split at hnk_) <;> simp at hnk_)) <;> omega, by (try (split at hnk_ <;> (try split at hnk_) <;> simp at hnk_)) <;> omega, by (try (split at hnk_ <;> (try split at hnk_) <;> simp at hnk_)) <;> omega, by (try (split at hnk_ <;> (try split at hnk_) <;> simp at hnk_)) <;> omega, by (try (split at hnk_ <;> (try split at hnk_) <;> simp at hnk_)) <;> omega⟩ a_ (ha_.weaken (sub_of ⟨rfl, rfl, rfl, trivial⟩))
   omega
  ·
   have aB : aa ≤ node := by have q_ := of_decide_eq_false ah; omega
   refine WLz 3 [(19, I6 (IntKind.i64.wrap (aa + 8))), (17, I6 node)] (WLt (show (I6 (IntKind.i64.wrap (aa + 8)) : Value) = I6 (aa + 8) from by rw [wrap_in_i64 (aa + 8) (by omega) (by omega)]) (WLz 2 [(21, .bool (decide (node ≥ (aa + 8))))] (WLd rfl (QXn (ag _ _ (WCa 21 (decide (node ≥ (aa + 8))) rfl (fun ai => ?_) (fun ai => ?_)))))))
   ·
    have aC : (aa + 8) ≤ node := by have q_ := of_decide_eq_true ai; omega
    refine WCt rfl (WC.exit (QXe (QX.block_hit (QXn (ac _ _ (WCg (WLq 1 [(36, I6 (IntKind.i64.wrap ((k : Int) + 1)))] ?_)))))))
    refine WLt (show (I6 (IntKind.i64.wrap ((k : Int) + 1)) : Value) = I6 ((k : Int) + 1) from by rw [wrap_in_i64 ((k : Int) + 1) (by omega) (by omega)]) (WLq 1 [(10, I6 ((k : Int) + 1))] (WLd rfl (QXn ?_)))
    have av := ab.pick [] [] rfl rfl
    refine fun a_ ha_ => hK8 _ _ _ ?_ ⟨k + 1, rfl, rfl, av, by (try (split at hnk_ <;> (try split at hnk_) <;> simp at hnk_)) <;> omega, by (try (split at hnk_ <;> (try split at hnk_) <;> simp at hnk_)) <;> omega, by (try (split at hnk_ <;> (try split at hnk_) <;> simp at hnk_)) <;> omega, by (try (split at hnk_ <;> (try split at hnk_) <;> simp at hnk_)) <;> omega, by (try (split at hnk_ <;> (try split at hnk_) <;> simp at hnk_)) <;> omega⟩ a_ (ha_.weaken (sub_of ⟨rfl, rfl, rfl, trivial⟩))
    omega
   ·
    have aC : node < (aa + 8) := by have q_ := of_decide_eq_false ai; omega
    refine WCf rfl (WC.skip (QXn (am _ _ (WCs (fun aJ an => WCg (WLz 4 [(26, I6 (IntKind.i64.wrap (node - aa))), (23, I6 aa)] (WLt (show (I6 (IntKind.i64.wrap (node - aa)) : Value) = I6 (node - aa) from by rw [wrap_in_i64 (node - aa) (by omega) (by omega)]) (WLk (Node_ct aa (node - aa) az (by omega)) ?_))))))))
    rintro _ aK ⟨rfl, aw⟩
    refine ⟨_, rfl, ?_⟩
    have ao := ab.call aw
    refine WLz 5 [(8, errV 118 (if nodeOk aa (node - aa) then 0 else 12))] (WLd rfl (QXn (an _ _ (WCs (fun aL ap => WCg (WLq 1 [(30, errV 118 (if nodeOk aa (node - aa) then 0 else 12))] ?_))))))
    have ax : ∀ w_, Sem.run Tryz.prog (do eqGuard .eql 97 (Operand.tmp 30) (Operand.const (.nilIface)) (errV 118 (if nodeOk aa (node - aa) then 0 else 12)) (.nilIface); binOp .eql 97 (errV 118 (if nodeOk aa (node - aa) then 0 else 12)) (.nilIface)) w_ = .ok (.bool (nodeOk aa (node - aa))) w_ := fun w_ => (err_eql _ (if nodeOk aa (node - aa) then 0 else 12) (nodeOk aa (node - aa)) (by cases nodeOk aa (node - aa) <;> rfl) _)
    refine WL.sem (do eqGuard .eql 97 (Operand.tmp 30) (Operand.const (.nilIface)) (errV 118 (if nodeOk aa (node - aa) then 0 else 12)) (.nilIface); binOp .eql 97 (errV 118 (if nodeOk aa (node - aa) then 0 else 12)) (.nilIface)) 31 (.bool (nodeOk aa (node - aa))) (by kernel_rfl) (ax _) (WLd rfl (QXn (ap _ _ (WCa 31 (nodeOk aa (node - aa)) rfl (fun aj => ?_) (fun aj => ?_)))))
    ·
     refine WCt rfl (WCs (fun aM aq => WCg (WLz 4 [(35, I6 (IntKind.i64.wrap (node - aa))), (32, I6 aa)] (WLt (show (I6 (IntKind.i64.wrap (node - aa)) : Value) = I6 (node - aa) from by rw [wrap_in_i64 (node - aa) (by omega) (by omega)]) (WLq 3 [(4, .bool true), (3, I6 (node - aa)), (2, I6 aa)] (WLd rfl (QXn (aq _ _ ?_))))))))
     refine WC.ret (QXk (QXr (QXr (QXk (QXr ?_)))))
     refine (hret _ _ _ rfl ?_).1
     clear hN hret hret' aq ap an ag am ak ac ae ad hK6 hK4 hK2
     have hnk_ := aj
     obtain ⟨q1_, q2_, q3_⟩ := kind_yes (n := node) (e := aa) (by unfold nodeOk at hnk_; split at hnk_ <;> (try split at hnk_) <;> simp at hnk_ <;> omega)
     exact ⟨by rw [q1_, q2_, q3_]; rfl, ao.fr⟩
    ·
     refine WCf rfl (WC.skip (QXb (QXn (ac _ _ (WCg (WLq 1 [(36, I6 (IntKind.i64.wrap ((k : Int) + 1)))] (WLt (show (I6 (IntKind.i64.wrap ((k : Int) + 1)) : Value) = I6 ((k : Int) + 1) from by rw [wrap_in_i64 ((k : Int) + 1) (by omega) (by omega)]) (WLq 1 [(10, I6 ((k : Int) + 1))] ?_))))))))
     refine WLd rfl (QXn ?_)
     have ay := ao.pick [] [] rfl rfl
     have hnk_ := aj
     unfold nodeOk at hnk_
     refine fun a_ ha_ => hK8 _ _ _ ?_ ⟨k + 1, rfl, rfl, ay, by (try (split at hnk_ <;> (try split at hnk_) <;> simp at hnk_)) <;> omega, by (try (split at hnk_ <;> (try split at hnk_) <;> simp at hnk_)) <;> omega, by (try (split at hnk_ <;> (try split at hnk_) <;> simp at hnk_)) <;> omega, by (try (split at hnk_ <;> (try split at hnk_) <;> simp at hnk_)) <;> omega, by (try (split at hnk_ <;> (try split at hnk_) <;> simp at hnk_)) <;> omega⟩ a_ (ha_.weaken (sub_of ⟨rfl, rfl, rfl, trivial⟩))
     omega
 ·
  have aA : (4 : Int) ≤ (k : Int) := by have q_ := of_decide_eq_false af; omega
  refine WCf rfl (WC.exit (QXe (QXe (QX.block_hit (QXn (hK4 _ _ ?_))))))
  refine WCs (fun aN ar => WCg (WLq 3 [(4, .bool false), (3, I6 0), (2, I6 0)] (WLd rfl (QXn (ar _ _ (WC.ret ?_))))))
  refine (hret _ _ _ rfl ?_).1
  clear hN hret hret' ar ae ad hK6 hK4 hK2
  have hb_ : kindB node = false := by unfold kindB; apply decide_eq_false; omega
  obtain ⟨q1_, q2_⟩ := kind_no hb_
  exact ⟨by rw [hb_, q1_, q2_]; rfl, ab.fr⟩

theorem mgr_no {n : Int} (h : kindB n = false) : mgrB n = false := by
  have h1 := of_decide_eq_false h
  exact decide_eq_false (by omega)
theorem mgr_yes {n : Int} (h : kindB n = true) : (kindK n == 16) = mgrB n := by
  have h1 := of_decide_eq_true h
  unfold kindK mgrB
  rw [Bool.eq_iff_iff, decide_eq_true_eq, beq_iff_eq]
  (repeat' split) <;> omega
theorem manager_ct (node : Int) (w : World) (hw : isI64 node) : Calls Tryz.prog 76 #[I6 node] w fun e w' => e = .returned (.bool (mgrB node)) ∧ Fr w w' [] := by
 refine enterD (n := 17) Tryz.func76 rfl rfl (Nat.le_of_ble_eq_true rfl) ?_
 intro Q0 hN hret hret'
 have hC := Cx.start w
 refine WCs (fun K1 hK2 => WCg (WLq 1 [(2, .bool false)] (WLd rfl (QXn (hK2 _ _ (WCs (fun K3 hK4 => WCg (WLq 1 [(7, I6 node)] (WLk (Kind_ct node w hw) ?_)))))))))
 rintro _ w6 ⟨rfl, hF5⟩
 refine ⟨_, rfl, ?_⟩
 have hC7 := hC.call hF5
 refine WLz 7 [(5, .bool (kindB node)), (3, I6 (kindK node))] (WLd rfl (QXn (hK4 _ _ (WCs (fun K8 hK9 => WCg (WLz 2 [(13, .bool (kindB node))] (WLa 13 (kindB node) rfl (fun aa => ?_) (fun aa => ?_))))))))
 ·
  refine WLz 4 [(2, .bool ((kindK node) == 16))] (WLd rfl (QXn (hK9 _ _ (WC.ret ?_))))
  refine (hret _ _ _ rfl ?_).1
  exact ⟨congrArg (fun b_ => Ending.returned (Value.bool b_)) (show (((kindK node) == 16) : Bool) = mgrB node from mgr_yes aa), hC7.fr⟩
 ·
  refine WLz 4 [(2, .bool false)] (WLd rfl (QXn (hK9 _ _ (WC.ret ?_))))
  refine (hret _ _ _ rfl ?_).1
  exact ⟨congrArg (fun b_ => Ending.returned (Value.bool b_)) (show (false : Bool) = mgrB node from (mgr_no aa).symm), hC7.fr⟩

end Go.Proofs.YtfligklljkcbfaaGreatDoor
