/- Contracts of functions of the program, each proved by a walk through its code; conditions stand in the statements. -/
import Derived.Test.YtibkndhgeeoidaaRgG
namespace Go.Proofs.Ytibkndhgeeoidaa
set_option linter.unusedSimpArgs false
set_option linter.unusedVariables false
set_option linter.unusedSectionVars false
open Go Go.RowKit Go.Tw
set_option linter.unusedVariables false
set_option maxRecDepth 20000
theorem and255 (x : Int) (h0 : 0 ≤ x) (h1 : x ≤ 4294967295) : Go.bits .and .u32 x 255 = x % 256 := by
  obtain ⟨n, rfl⟩ := Int.eq_ofNat_of_zero_le h0
  show IntKind.u32.wrap ((BitVec.ofInt 32 (n : Int) &&& BitVec.ofInt 32 255).toNat : Int) = _
  rw [BitVec.toNat_and, BitVec.ofInt_natCast]
  have h2 : (BitVec.ofInt 32 255).toNat = 2 ^ 8 - 1 := by decide
  rw [h2, Nat.and_two_pow_sub_one_eq_mod, BitVec.toNat_ofNat, Nat.mod_eq_of_lt (show n < 2 ^ 32 by omega), IntKind.wrap_u32]
  omega
theorem or_dip (h v : Int) (h0 : 0 ≤ h) (h1 : h < 8) (v0 : 0 ≤ v) (v1 : v < 16) : Go.bits .or .u32 (Go.bits .or .u32 167837696 (IntKind.u32.wrap (IntKind.u32.wrap h * 2 ^ 8))) (IntKind.u32.wrap v) = 167837696 + 256 * h + v := by
  obtain ⟨n, rfl⟩ := Int.eq_ofNat_of_zero_le h0
  obtain ⟨m, rfl⟩ := Int.eq_ofNat_of_zero_le v0
  have hn : n < 8 := by omega
  have hm : m < 16 := by omega
  have key : ∀ n : Fin 8, ∀ m : Fin 16, Go.bits .or .u32 (Go.bits .or .u32 167837696 (IntKind.u32.wrap (IntKind.u32.wrap (n.val : Int) * 2 ^ 8))) (IntKind.u32.wrap (m.val : Int)) = 167837696 + 256 * (n.val : Int) + (m.val : Int) := by decide +kernel
  exact key ⟨n, hn⟩ ⟨m, hm⟩
def dipOk (h v : Int) : Bool := decide (0 ≤ h ∧ h < 8 ∧ 0 ≤ v ∧ v < 16)
def isHome (a : Int) : Bool := decide (167837696 ≤ a ∧ (a - 167837696) / 256 < 8 ∧ (a - 167837696) % 256 < 16)
def isVip (a : Int) : Bool := decide (1 ≤ a / 16777216 ∧ a / 16777216 ≤ 223 ∧ a / 16777216 ≠ 10 ∧ a / 16777216 ≠ 127)
theorem Dip_yes (h v : Int) (w : World) (h0 : 0 ≤ h) (h1 : h < 8) (v0 : 0 ≤ v) (v1 : v < 16) : Calls Try.prog 63 #[.int .i64 h, .int .i64 v] w fun e w' => e = .returned (.tuple #[.int .u32 (167837696 + 256 * h + v), .nilIface]) ∧ Fr w w' [] := by
 refine enterD (n := 28) Try.func63 rfl rfl (Nat.le_of_ble_eq_true rfl) ?_
 intro Q0 hN hret hret'
 have hC := Cx.start w
 refine WCs (fun K1 hK2 => ?_)
 refine WCg (WLq 2 [(5, .nilIface), (4, .int .u32 0)] (WLd rfl (QXn (hK2 _ _ ?_))))
 refine WCs (fun K3 hK4 => ?_)
 refine WCs (fun K5 hK6 => ?_)
 refine WCg (WLq 3 [(8, .bool (decide (h < 0))), (7, .bool (decide (h < 0))), (6, .int .i64 h)] ?_)
 refine WL.know 8 (.bool (decide (h < 0))) (.bool false) rfl (congrArg Value.bool (by simpa using h0)) ?_
 refine WLq 4 [(12, .bool (decide (h ≥ 8))), (11, .bool (decide (h ≥ 8))), (10, .bool (decide (h ≥ 8))), (9, .int .i64 h)] ?_
 refine WL.know 12 (.bool (decide (h ≥ 8))) (.bool false) rfl (congrArg Value.bool (by simpa using h1)) ?_
 refine WLq 4 [(16, .bool (decide (v < 0))), (15, .bool (decide (v < 0))), (14, .bool (decide (v < 0))), (13, .int .i64 v)] ?_
 refine WL.know 16 (.bool (decide (v < 0))) (.bool false) rfl (congrArg Value.bool (by simpa using v0)) ?_
 refine WLq 3 [(19, .bool (decide (v ≥ 16))), (18, .bool (decide (v ≥ 16))), (17, .int .i64 v)] (WLd rfl (QXn (hK6 _ _ ?_)))
 refine WC.know 19 (.bool (decide (v ≥ 16))) (.bool false) rfl (congrArg Value.bool (by simpa using v1)) ?_
 refine WCf rfl (WC.skip (QXn (hK4 _ _ ?_)))
 refine WCs (fun K7 hK8 => ?_)
 refine WCg (WLq 9 [(5, .nilIface), (4, .int .u32 (Go.bits .or .u32 (Go.bits .or .u32 167837696 (IntKind.u32.wrap ((IntKind.u32.wrap (h)) * 2 ^ 8))) (IntKind.u32.wrap (v)))), (27, .int .u32 (Go.bits .or .u32 (Go.bits .or .u32 167837696 (IntKind.u32.wrap ((IntKind.u32.wrap (h)) * 2 ^ 8))) (IntKind.u32.wrap (v)))), (26, .int .u32 (IntKind.u32.wrap (v))), (25, .int .i64 v), (24, .int .u32 (Go.bits .or .u32 167837696 (IntKind.u32.wrap ((IntKind.u32.wrap (h)) * 2 ^ 8)))), (23, .int .u32 (IntKind.u32.wrap ((IntKind.u32.wrap (h)) * 2 ^ 8))), (22, .int .u32 (IntKind.u32.wrap (h))), (21, .int .i64 h)] (WLd rfl (QXn (hK8 _ _ ?_))))
 refine WC.ret ?_
 refine (hret _ _ _ rfl ?_).1
 exact ⟨by rw [← or_dip h v h0 h1 v0 v1]; rfl, hC.fr⟩

theorem Dip_no (h v : Int) (w : World) (hb : dipOk h v = false) : Calls Try.prog 63 #[.int .i64 h, .int .i64 v] w fun e w' => e = .returned (.tuple #[.int .u32 0, .iface 62 (.int .i64 12)]) ∧ Fr w w' [] := by
 refine enterD (n := 28) Try.func63 rfl rfl (Nat.le_of_ble_eq_true rfl) ?_
 intro Q0 hN hret hret'
 have hC := Cx.start w
 refine WCs (fun K1 hK2 => ?_)
 refine WCg (WLq 2 [(5, .nilIface), (4, .int .u32 0)] (WLd rfl (QXn (hK2 _ _ ?_))))
 refine WCs (fun K3 hK4 => ?_)
 refine WCs (fun K5 hK6 => ?_)
 refine WCg (WLq 3 [(8, .bool (decide (h < 0))), (7, .bool (decide (h < 0))), (6, .int .i64 h)] ?_)
 refine WLa 8 (decide (h < 0)) rfl (fun t7b => ?_) (fun t7b => ?_)
 ·
  have t7 : h < 0 := by have q_ := of_decide_eq_true t7b; omega
  refine WLq 11 [(19, .bool true), (18, undef), (17, undef), (16, .bool true), (15, .bool true), (14, undef), (13, undef), (12, .bool true), (11, .bool true), (10, undef), (9, undef)] (WLd rfl (QXn (hK6 _ _ ?_)))
  refine WCt rfl ?_
  refine WCs (fun K8 hK9 => ?_)
  refine WCg (WLq 3 [(5, .iface 62 (.int .i64 12)), (4, .int .u32 0), (20, .iface 62 (.int .i64 12))] (WLd rfl (QXn (hK9 _ _ ?_))))
  refine WC.ret ?_
  refine QXr ?_
  refine (hret _ _ _ rfl ?_).1
  exact ⟨rfl, hC.fr⟩
 ·
  have t7 : (0 : Int) ≤ h := by have q_ := of_decide_eq_false t7b; omega
  refine WLq 4 [(12, .bool (decide (h ≥ 8))), (11, .bool (decide (h ≥ 8))), (10, .bool (decide (h ≥ 8))), (9, .int .i64 h)] ?_
  refine WLa 12 (decide (h ≥ 8)) rfl (fun aa => ?_) (fun aa => ?_)
  ·
   have ah : (8 : Int) ≤ h := by have q_ := of_decide_eq_true aa; omega
   refine WLq 7 [(19, .bool true), (18, undef), (17, undef), (16, .bool true), (15, .bool true), (14, undef), (13, undef)] (WLd rfl (QXn (hK6 _ _ ?_)))
   refine WCt rfl ?_
   refine WCs (fun ak ae => ?_)
   refine WCg (WLq 3 [(5, .iface 62 (.int .i64 12)), (4, .int .u32 0), (20, .iface 62 (.int .i64 12))] (WLd rfl (QXn (ae _ _ ?_))))
   refine WC.ret ?_
   refine QXr ?_
   refine (hret _ _ _ rfl ?_).1
   exact ⟨rfl, hC.fr⟩
  ·
   have ah : h < 8 := by have q_ := of_decide_eq_false aa; omega
   refine WLq 4 [(16, .bool (decide (v < 0))), (15, .bool (decide (v < 0))), (14, .bool (decide (v < 0))), (13, .int .i64 v)] ?_
   refine WLa 16 (decide (v < 0)) rfl (fun ab => ?_) (fun ab => ?_)
   ·
    have ai : v < 0 := by have q_ := of_decide_eq_true ab; omega
    refine WLq 3 [(19, .bool true), (18, undef), (17, undef)] (WLd rfl (QXn (hK6 _ _ ?_)))
    refine WCt rfl ?_
    refine WCs (fun al af => ?_)
    refine WCg (WLq 3 [(5, .iface 62 (.int .i64 12)), (4, .int .u32 0), (20, .iface 62 (.int .i64 12))] (WLd rfl (QXn (af _ _ ?_))))
    refine WC.ret ?_
    refine QXr ?_
    refine (hret _ _ _ rfl ?_).1
    exact ⟨rfl, hC.fr⟩
   ·
    have ai : (0 : Int) ≤ v := by have q_ := of_decide_eq_false ab; omega
    refine WLq 3 [(19, .bool (decide (v ≥ 16))), (18, .bool (decide (v ≥ 16))), (17, .int .i64 v)] (WLd rfl (QXn (hK6 _ _ ?_)))
    refine WCa 19 (decide (v ≥ 16)) rfl (fun ac => ?_) (fun ac => ?_)
    ·
     have aj : (16 : Int) ≤ v := by have q_ := of_decide_eq_true ac; omega
     refine WCt rfl ?_
     refine WCs (fun am ag => ?_)
     refine WCg (WLq 3 [(5, .iface 62 (.int .i64 12)), (4, .int .u32 0), (20, .iface 62 (.int .i64 12))] (WLd rfl (QXn (ag _ _ ?_))))
     refine WC.ret ?_
     refine QXr ?_
     refine (hret _ _ _ rfl ?_).1
     exact ⟨rfl, hC.fr⟩
    ·
     have aj : v < 16 := by have q_ := of_decide_eq_false ac; omega
     refine WCf rfl (WC.skip (QXn (hK4 _ _ ?_)))
     refine WCs (fun an ad => ?_)
     refine WCg (WLq 9 [(5, .nilIface), (4, .int .u32 (Go.bits .or .u32 (Go.bits .or .u32 167837696 (IntKind.u32.wrap ((IntKind.u32.wrap (h)) * 2 ^ 8))) (IntKind.u32.wrap (v)))), (27, .int .u32 (Go.bits .or .u32 (Go.bits .or .u32 167837696 (IntKind.u32.wrap ((IntKind.u32.wrap (h)) * 2 ^ 8))) (IntKind.u32.wrap (v)))), (26, .int .u32 (IntKind.u32.wrap (v))), (25, .int .i64 v), (24, .int .u32 (Go.bits .or .u32 167837696 (IntKind.u32.wrap ((IntKind.u32.wrap (h)) * 2 ^ 8)))), (23, .int .u32 (IntKind.u32.wrap ((IntKind.u32.wrap (h)) * 2 ^ 8))), (22, .int .u32 (IntKind.u32.wrap (h))), (21, .int .i64 h)] (WLd rfl (QXn (ad _ _ ?_))))
     refine WC.ret ?_
     refine (hret _ _ _ rfl ?_).1
     clear hN hret hret' ad hK6 hK4 hK2
     exfalso; simp [dipOk] at hb; omega

def homeN (a : Int) : Int := if isHome a then 48 + (a - 167837696) / 256 else 0
def homeV (a : Int) : Int := if isHome a then (a - 167837696) % 256 else 0
theorem home_hit {a : Int} (h0 : 0 ≤ a) (h1 : a ≤ 4294967295) (hd : a / 256 % 256 < 8 ∧ a % 256 < 16) (t : 167837696 + 256 * (a / 256 % 256) + a % 256 = a) : isHome a = true ∧ homeN a = 48 + a / 256 % 256 ∧ homeV a = a % 256 := by
  have h : isHome a = true := by simp [isHome]; omega
  refine ⟨h, ?_, ?_⟩
  · simp [homeN, h]; omega
  · simp [homeV, h]; omega
theorem home_miss {a : Int} (h0 : 0 ≤ a) (h1 : a ≤ 4294967295) (hd : ¬ (a / 256 % 256 < 8 ∧ a % 256 < 16) ∨ ¬ 167837696 + 256 * (a / 256 % 256) + a % 256 = a) : isHome a = false ∧ homeN a = 0 ∧ homeV a = 0 := by
  have h : isHome a = false := by simp [isHome]; omega
  exact ⟨h, by simp [homeN, h], by simp [homeV, h]⟩
theorem Home_ct (a : Int) (w : World) (h0 : 0 ≤ a) (h1 : a ≤ 4294967295) : Calls Try.prog 43 #[.int .u32 a] w fun e w' => e = .returned (.tuple #[.int .i64 (homeN a), .int .i64 (homeV a), .bool (isHome a)]) ∧ Fr w w' [] := by
 refine enterD (n := 32) Try.func43 rfl rfl (Nat.le_of_ble_eq_true rfl) ?_
 intro Q0 hN hret hret'
 have hC := Cx.start w
 refine WCs (fun K1 hK2 => ?_)
 refine WCg (WLq 3 [(4, .bool false), (3, .int .i64 0), (2, .int .i64 0)] (WLd rfl (QXn (hK2 _ _ ?_))))
 refine WCs (fun K3 hK4 => ?_)
 refine WCg (WLq 2 [(10, .int .u32 ((a : Int).fdiv (2 ^ 8))), (9, .int .u32 a)] ?_)
 refine WLt (show (.int .u32 ((a : Int).fdiv (2 ^ 8)) : Value) = .int .u32 ((a : Int) / 256) from by rw [Int.fdiv_eq_ediv_of_nonneg (a : Int) (by decide)]; rfl) ?_
 refine WLq 1 [(11, .int .u32 (Go.bits .and .u32 ((a : Int) / 256) 255))] ?_
 refine WLt (show (.int .u32 (Go.bits .and .u32 ((a : Int) / 256) 255) : Value) = .int .u32 (((a : Int) / 256) % 256) from by rw [and255 _ (by omega) (by omega)]) ?_
 refine WLq 1 [(12, .int .i64 (IntKind.i64.wrap (((a : Int) / 256) % 256)))] ?_
 refine WLt (show (.int .i64 (IntKind.i64.wrap (((a : Int) / 256) % 256)) : Value) = .int .i64 (((a : Int) / 256) % 256) from by rw [wrap_in_i64 (((a : Int) / 256) % 256) (by omega) (by omega)]) ?_
 refine WLq 2 [(14, .int .u32 (Go.bits .and .u32 a 255)), (13, .int .u32 a)] ?_
 refine WLt (show (.int .u32 (Go.bits .and .u32 a 255) : Value) = .int .u32 (a % 256) from by rw [and255 _ (by omega) (by omega)]) ?_
 refine WLq 1 [(15, .int .i64 (IntKind.i64.wrap (a % 256)))] ?_
 refine WLt (show (.int .i64 (IntKind.i64.wrap (a % 256)) : Value) = .int .i64 (a % 256) from by rw [wrap_in_i64 (a % 256) (by omega) (by omega)]) ?_
 refine WLq 2 [(6, .int .i64 (a % 256)), (5, .int .i64 (((a : Int) / 256) % 256))] (WLd rfl (QXn (hK4 _ _ ?_)))
 refine WCs (fun K5 hK6 => ?_)
 refine WCs (fun K7 hK8 => ?_)
 refine WCg (WLq 2 [(18, .int .i64 (a % 256)), (17, .int .i64 (((a : Int) / 256) % 256))] ?_)
 by_cases hd : ((a : Int) / 256) % 256 < 8 ∧ a % 256 < 16
 ·
  refine WLc rfl rfl rfl rfl rfl (by kernel_rfl) (Dip_yes (((a : Int) / 256) % 256) (a % 256) w (by omega) hd.1 (by omega) hd.2) ?_
  rintro _ ak ⟨rfl, hF9⟩
  refine ⟨_, rfl, ?_⟩
  have ac := hC.call hF9
  refine WLq 5 [(8, .nilIface), (7, .int .u32 (167837696 + 256 * (((a : Int) / 256) % 256) + (a % 256))), (21, .nilIface), (20, .int .u32 (167837696 + 256 * (((a : Int) / 256) % 256) + (a % 256))), (16, .tuple #[.int .u32 (167837696 + 256 * (((a : Int) / 256) % 256) + (a % 256)), .nilIface])] (WLd rfl (QXn (hK8 _ _ ?_)))
  refine WCs (fun al aa => ?_)
  refine WCg (WLq 7 [(28, .bool ((167837696 + 256 * (((a : Int) / 256) % 256) + (a % 256)) != a)), (27, .bool ((167837696 + 256 * (((a : Int) / 256) % 256) + (a % 256)) != a)), (26, .int .u32 a), (25, .int .u32 (167837696 + 256 * (((a : Int) / 256) % 256) + (a % 256))), (24, .bool false), (23, .bool false), (22, .nilIface)] (WLd rfl (QXn (aa _ _ ?_))))
  refine WCa 28 ((167837696 + 256 * (((a : Int) / 256) % 256) + (a % 256)) != a) rfl (fun ab => ?_) (fun ab => ?_)
  ·
   have aj : (167837696 + 256 * (((a : Int) / 256) % 256) + (a % 256)) ≠ a := by simpa using ab
   refine WCt rfl ?_
   refine WCs (fun am ad => ?_)
   refine WCg (WLq 3 [(4, .bool false), (3, .int .i64 0), (2, .int .i64 0)] (WLd rfl (QXn (ad _ _ ?_))))
   refine WC.ret ?_
   refine QXr ?_
   refine (hret _ _ _ rfl ?_).1
   clear hN hret hret' ad aa hK8 hK6 hK4 hK2
   obtain ⟨q1, q2, q3⟩ := home_miss h0 h1 (by omega)
   exact ⟨by rw [q1, q2, q3]; rfl, ac.fr⟩
  ·
   have aj : (167837696 + 256 * (((a : Int) / 256) % 256) + (a % 256)) = a := by simpa using ab
   refine WCf rfl (WC.skip (QXn (hK6 _ _ ?_)))
   refine WCs (fun an ae => ?_)
   refine WCg (WLq 2 [(30, .int .i64 (IntKind.i64.wrap (48 + (((a : Int) / 256) % 256)))), (29, .int .i64 (((a : Int) / 256) % 256))] ?_)
   refine WLt (show (.int .i64 (IntKind.i64.wrap (48 + (((a : Int) / 256) % 256))) : Value) = .int .i64 (48 + (((a : Int) / 256) % 256)) from by rw [wrap_in_i64 (48 + (((a : Int) / 256) % 256)) (by omega) (by omega)]) ?_
   refine WLq 4 [(4, .bool true), (3, .int .i64 (a % 256)), (2, .int .i64 (48 + (((a : Int) / 256) % 256))), (31, .int .i64 (a % 256))] (WLd rfl (QXn (ae _ _ ?_)))
   refine WC.ret ?_
   refine (hret _ _ _ rfl ?_).1
   clear hN hret hret' ae aa hK8 hK6 hK4 hK2
   obtain ⟨q1, q2, q3⟩ := home_hit h0 h1 hd (by omega)
   exact ⟨by rw [q1, q2, q3]; rfl, ac.fr⟩
 ·
  refine WLc rfl rfl rfl rfl rfl (by kernel_rfl) (Dip_no (((a : Int) / 256) % 256) (a % 256) w (by simp [dipOk]; omega)) ?_
  rintro _ ao ⟨rfl, ah⟩
  refine ⟨_, rfl, ?_⟩
  have ai := hC.call ah
  refine WLq 5 [(8, .iface 62 (.int .i64 12)), (7, .int .u32 0), (21, .iface 62 (.int .i64 12)), (20, .int .u32 0), (16, .tuple #[.int .u32 0, .iface 62 (.int .i64 12)])] (WLd rfl (QXn (hK8 _ _ ?_)))
  refine WCs (fun ap af => ?_)
  refine WCg (WLq 7 [(28, .bool true), (27, undef), (26, undef), (25, undef), (24, .bool true), (23, .bool true), (22, .iface 62 (.int .i64 12))] (WLd rfl (QXn (af _ _ ?_))))
  refine WCt rfl ?_
  refine WCs (fun aq ag => ?_)
  refine WCg (WLq 3 [(4, .bool false), (3, .int .i64 0), (2, .int .i64 0)] (WLd rfl (QXn (ag _ _ ?_))))
  refine WC.ret ?_
  refine QXr ?_
  refine (hret _ _ _ rfl ?_).1
  clear hN hret hret' ag af hK8 hK6 hK4 hK2
  obtain ⟨q1, q2, q3⟩ := home_miss h0 h1 (by omega)
  exact ⟨by rw [q1, q2, q3]; rfl, ai.fr⟩

def goodE1 (e : EndV) : Bool := isHome e.dip && decide (0 ≤ e.port ∧ e.port ≤ 65535 ∧ 1 ≤ e.weight ∧ e.weight ≤ 16)
def goodE (es : List EndV) : Bool := decide (es.length ≤ 64) && (es.all goodE1 && decide ((es.map (·.dip)).Nodup))
def anyDip (e : EndV) (xs : List EndV) : Bool := xs.any fun d => d.dip == e.dip
theorem any_snocD {e : EndV} {xs : List EndV} {i : Nat} {d : EndV} (h : xs[i]? = some d) : anyDip e (xs.take (i + 1)) = (anyDip e (xs.take i) || (d.dip == e.dip)) := by
  obtain ⟨hi, rfl⟩ := List.getElem?_eq_some_iff.1 h
  unfold anyDip; rw [List.take_succ_eq_append_getElem hi, List.any_append]; simp
theorem any_subD {e : EndV} {xs : List EndV} {i : Nat} (h : anyDip e (xs.take i) = true) : anyDip e xs = true := by
  unfold anyDip at h ⊢
  rw [List.any_eq_true] at h ⊢
  obtain ⟨d, hd, he⟩ := h
  exact ⟨d, List.mem_of_mem_take hd, he⟩
theorem ends_step {ends : List EndV} {i : Nat} {e : EndV} (he : ends[i]? = some e) (hall : (ends.take i).all goodE1 = true) (hnd : ((ends.take i).map (·.dip)).Nodup) (h1 : goodE1 e = true) (h2 : anyDip e (ends.take i) = false) : (ends.take (i + 1)).all goodE1 = true ∧ ((ends.take (i + 1)).map (·.dip)).Nodup := by
  obtain ⟨hi, rfl⟩ := List.getElem?_eq_some_iff.1 he
  rw [List.take_succ_eq_append_getElem hi]
  refine ⟨by rw [List.all_append, hall]; simp [h1], ?_⟩
  rw [List.map_append, List.nodup_append]
  refine ⟨hnd, by simp, fun a ha b hb => ?_⟩
  simp only [List.map_cons, List.map_nil, List.mem_singleton] at hb
  subst hb
  obtain ⟨d, hd, rfl⟩ := List.mem_map.1 ha
  intro hx
  have : anyDip ends[i] (ends.take i) = true := by unfold anyDip; rw [List.any_eq_true]; exact ⟨d, hd, by simp [hx]⟩
  rw [h2] at this; cases this
theorem ends_bad1 {ends : List EndV} {i : Nat} {e : EndV} (he : ends[i]? = some e) (h1 : goodE1 e = false) : goodE ends = false := by
  unfold goodE
  have : ends.all goodE1 = false := by
    rw [Bool.eq_false_iff]; intro h; rw [List.all_eq_true] at h
    have := h e (List.mem_of_getElem? he); rw [h1] at this; cases this
  rw [this]; simp
theorem ends_bad2 {ends : List EndV} {i : Nat} {e : EndV} (he : ends[i]? = some e) (h2 : anyDip e (ends.take i) = true) : goodE ends = false := by
  unfold goodE
  have : ¬ (ends.map (·.dip)).Nodup := by
    intro hn
    unfold anyDip at h2
    rw [List.any_eq_true] at h2
    obtain ⟨d, hd, hx⟩ := h2
    obtain ⟨hi, rfl⟩ := List.getElem?_eq_some_iff.1 he
    obtain ⟨j, hj⟩ := List.getElem?_of_mem hd
    rw [List.getElem?_take] at hj
    split at hj
    · rename_i hlt
      have hdj := (List.getElem?_eq_some_iff.1 hj).2
      have hjl := (List.getElem?_eq_some_iff.1 hj).1
      have := (List.getElem_inj (i := j) (j := i) (h₀ := by rw [List.length_map]; omega) (h₁ := by rw [List.length_map]; omega) hn).1 (by
        simp only [List.getElem_map]; rw [hdj]; simpa using hx)
      omega
    · cases hj
  rw [decide_eq_false this]; simp
theorem ends_long {ends : List EndV} (h : 64 < ends.length) : goodE ends = false := by unfold goodE; rw [decide_eq_false (by omega)]; rfl
theorem ends_good {ends : List EndV} (h : ends.length ≤ 64) (hall : ends.all goodE1 = true) (hnd : (ends.map (·.dip)).Nodup) : goodE ends = true := by
  unfold goodE; rw [decide_eq_true h, hall, decide_eq_true hnd]; rfl
theorem goodE1_yes {e : EndV} (h : isHome e.dip = true) (h1 : 0 ≤ e.port) (h2 : e.port ≤ 65535) (h3 : 1 ≤ e.weight) (h4 : e.weight ≤ 16) : goodE1 e = true := by
  unfold goodE1; rw [h, decide_eq_true ⟨h1, h2, h3, h4⟩]; rfl
theorem goodE1_no {e : EndV} (h : e.port < 0 ∨ 65535 < e.port ∨ e.weight < 1 ∨ 16 < e.weight) : goodE1 e = false := by
  unfold goodE1; rw [decide_eq_false (by omega)]; simp
theorem goodE1_home {e : EndV} (h : isHome e.dip = false) : goodE1 e = false := by unfold goodE1; rw [h]; rfl
def dupK {α κ : Type} (f : α → κ) (xs : List α) (i j : Nat) : Prop := ∃ a b k, k < j ∧ xs[i]? = some a ∧ xs[k]? = some b ∧ f b = f a
theorem dupK_0 {α κ : Type} (f : α → κ) (xs : List α) (i : Nat) : ¬ dupK f xs i 0 := fun ⟨_, _, _, h, _⟩ => Nat.not_lt_zero _ h
theorem dupK_step {α κ : Type} {f : α → κ} {xs : List α} {i j : Nat} {a b : α} (h : ¬ dupK f xs i j) (hi : xs[i]? = some a) (hj : xs[j]? = some b) (hne : f b ≠ f a) : ¬ dupK f xs i (j + 1) := by
  rintro ⟨a2, b2, k, hk, h1, h2, h3⟩
  by_cases e : k = j
  · subst e; rw [hi] at h1; rw [hj] at h2; cases h1; cases h2; exact hne h3
  · exact h ⟨a2, b2, k, by omega, h1, h2, h3⟩
theorem nodup_step {α κ : Type} {f : α → κ} {xs : List α} {i : Nat} {a : α} (h : ((xs.take i).map f).Nodup) (hd : ¬ dupK f xs i i) (hi : xs[i]? = some a) : ((xs.take (i + 1)).map f).Nodup := by
  have hi0 := hi
  obtain ⟨hl, rfl⟩ := List.getElem?_eq_some_iff.1 hi
  rw [List.take_succ_eq_append_getElem hl, List.map_append, List.nodup_append]
  refine ⟨h, by simp, fun x hx y hy e => ?_⟩
  simp only [List.map_cons, List.map_nil, List.mem_singleton] at hy
  obtain ⟨b, hb, rfl⟩ := List.mem_map.1 hx
  obtain ⟨k, hk⟩ := List.getElem?_of_mem hb
  have hki : k < i := by have := (List.getElem?_eq_some_iff.1 hk).1; rw [List.length_take] at this; omega
  rw [List.getElem?_take_of_lt hki] at hk
  exact hd ⟨_, b, k, hki, hi0, hk, e.trans hy⟩
theorem dup_not {α κ : Type} {f : α → κ} {xs : List α} {i j : Nat} {a b : α} (hi : xs[i]? = some a) (hj : xs[j]? = some b) (h : j < i) (e : f b = f a) : ¬ (xs.map f).Nodup := by
  intro hn
  have h1 : (xs.map f)[i]? = some (f a) := by rw [List.getElem?_map, hi]; rfl
  have h2 : (xs.map f)[j]? = some (f b) := by rw [List.getElem?_map, hj]; rfl
  obtain ⟨l1, e1⟩ := List.getElem?_eq_some_iff.1 h1
  obtain ⟨l2, e2⟩ := List.getElem?_eq_some_iff.1 h2
  exact List.pairwise_iff_getElem.1 hn j i l2 l1 h (by rw [e1, e2, e])
theorem goodE_no2 {es : List EndV} (h : ¬ (es.map (·.dip)).Nodup) : goodE es = false := by unfold goodE; rw [decide_eq_false h, Bool.and_false, Bool.and_false]
theorem all_snocE {α : Type} {p : α → Bool} {xs : List α} {i : Nat} {a : α} (h : (xs.take i).all p = true) (hi : xs[i]? = some a) (ha : p a = true) : (xs.take (i + 1)).all p = true := by
  obtain ⟨hl, rfl⟩ := List.getElem?_eq_some_iff.1 hi
  rw [List.take_succ_eq_append_getElem hl, List.all_append, h]; simpa using ha
theorem home_none {a : Int} (h : ∀ h' v' : Nat, h' < 8 → v' < 16 → 167837696 + 256 * (h' : Int) + (v' : Int) ≠ a) : isHome a = false := by
  cases hc : isHome a
  · rfl
  · simp only [isHome, decide_eq_true_eq] at hc
    exact absurd (by omega) (h ((a - 167837696) / 256).toNat ((a - 167837696) % 256).toNat (by omega) (by omega))
theorem home_some {a : Int} {h v : Nat} (hh : h < 8) (hv : v < 16) (e : 167837696 + 256 * (h : Int) + (v : Int) = a) : isHome a = true := by
  simp only [isHome, decide_eq_true_eq]; omega

theorem dipIs_ct (g : Nat) (e0 d : EndV) (w : World) (hg : w.heap[g]? = some (.cells #[.int .u32 e0.dip, .int .i64 e0.port, .int .i64 e0.weight] 49 (0, 0))) : Calls Try.prog 45 #[.agg #[.int .u32 d.dip, .int .i64 d.port, .int .i64 d.weight], .pointer (some ⟨g, 0, none⟩)] w fun e w' => e = .returned (.bool (d.dip == e0.dip)) ∧ Fr w w' [] := by
 refine enterD (n := 9) Try.func45 rfl rfl (Nat.le_of_ble_eq_true rfl) ?_
 intro Q0 hN hret hret'
 have hC := Cx.startMs w [(g, .cells #[.int .u32 e0.dip, .int .i64 e0.port, .int .i64 e0.weight] 49)] (by simp) (by simp [hg])
 refine WCs (fun K1 hK2 => ?_)
 refine WCg ?_
 refine WL.newM hC (fun b => .pointer (some ⟨b, 0, none⟩)) (.cells #[.int .u32 d.dip, .int .i64 d.port, .int .i64 d.weight] 49) 2 (fun _ => by kernel_rfl) (fun g3 w4 hb7 hF5 hC6 => ?_)
 have hf8 := (Fr.refl w []).trans hF5 (by simp)
 refine WLq 1 [(3, .bool false)] (WLd rfl (QXn (hK2 _ _ ?_)))
 refine WCs (fun K9 aa => ?_)
 refine WCg (WLq 1 [(4, .pointer (some ⟨g3, 0, none⟩))] ?_)
 refine WLo 23 (.pointer (some ⟨g3, 0, none⟩)) (.int .u32 d.dip) 5 (run_ld (hC6.get 1 rfl) rfl) ?_
 refine WLq 1 [(6, .pointer (some ⟨g, 0, none⟩))] ?_
 refine WLo 23 (.pointer (some ⟨g, 0, none⟩)) (.int .u32 e0.dip) 7 (run_ld (hC6.get 0 rfl) rfl) ?_
 refine WLq 2 [(3, .bool (d.dip == e0.dip)), (8, .bool (d.dip == e0.dip))] (WLd rfl (QXn (aa _ _ ?_)))
 refine WC.ret ?_
 refine (hret _ _ _ rfl ?_).1
 exact ⟨rfl, hf8⟩

theorem IndexE_ct (g : Nat) (e0 : EndV) (A : Option Addr) (c : Nat) (xs : List EndV) (w : World) (hg : w.heap[g]? = some (.cells #[.int .u32 e0.dip, .int .i64 e0.port, .int .i64 e0.weight] 49 (0, 0))) (hr : Rd w 3 cellsE A xs) (hl : xs.length ≤ 1099511627776) : Calls Try.prog 64 #[.slice A xs.length c, .func (.func 45) #[] #[.pointer (some ⟨g, 0, none⟩)]] w fun e w' => ∃ r : Int, e = .returned (.int .i64 r) ∧ Fr w w' [] ∧ decide (0 ≤ r) = anyDip e0 xs ∧ -1 ≤ r := by
 refine enterD (n := 19) Try.func64 rfl rfl (Nat.le_of_ble_eq_true rfl) ?_
 intro Q0 hN hret hret'
 have hC := Cx.start w
 refine WCs (fun K1 hK2 => ?_)
 refine WCg (WLq 1 [(4, .int .i64 0)] (WLd rfl (QXn (hK2 _ _ ?_))))
 refine WCs (fun K3 hK4 => ?_)
 refine WCs (fun K5 hK6 => ?_)
 refine WCg (WLq 3 [(8, .int .i64 0), (7, .int .i64 (xs.length : Int)), (6, .slice A xs.length c)] (WLd rfl (QXn (hK6 _ _ ?_))))
 refine WC.block ?_
 refine WC.loop (fun m_ E_ w_ => ∃ (i : Nat), m_ = xs.length - i ∧ E_ = [(0, .slice A xs.length c), (1, .func (.func 45) #[] #[.pointer (some ⟨g, 0, none⟩)]), (6, .slice A xs.length c), (7, .int .i64 (xs.length : Int)), (8, .int .i64 (i : Int))] ∧ Cx w [] w_ [] [] ∧ (i ≤ xs.length ∧ anyDip e0 (xs.take i) = false)) ⟨_, _, ⟨0, rfl, rfl, hC, Nat.zero_le _, rfl⟩, sub_of ⟨rfl, rfl, rfl, rfl, rfl, trivial⟩⟩ (fun m10 E_ ar K7 hK8 hI9 => ?_)
 obtain ⟨i, rfl, rfl, aa, hi, hall⟩ := hI9
 refine WCs (fun av ac => ?_)
 refine WCg (WLq 1 [(9, .bool (decide ((i : Int) < (xs.length : Int))))] (WLd rfl (QXn (ac _ _ ?_))))
 refine WCs (fun aw ad => ?_)
 refine WCa 9 (decide ((i : Int) < (xs.length : Int))) rfl (fun ae => ?_) (fun ae => ?_)
 ·
  have au : (i : Int) < (xs.length : Int) := by have q_ := of_decide_eq_true ae; omega
  refine WCt rfl ?_
  refine WC.skip ?_
  refine QXn (ad _ _ ?_)
  refine WCs (fun ax ah => ?_)
  refine WC.block ?_
  refine WCs (fun ay ai => ?_)
  refine WCg (WLq 2 [(5, .int .i64 (i : Int)), (10, .int .i64 (i : Int))] (WLd rfl (QXn (ai _ _ ?_))))
  refine WCs (fun az aj => ?_)
  refine WCg (WLq 3 [(13, .int .i64 (i : Int)), (12, .slice A xs.length c), (11, .func (.func 45) #[] #[.pointer (some ⟨g, 0, none⟩)])] ?_)
  obtain ⟨ab, af⟩ := get_some (xs := xs) (i := i) (by omega)
  obtain ⟨b26, o28, an, ao⟩ := hr.at_ _ _ af
  refine WLi A xs.length c 14 .i64 (i : Int) b26 o28 i 3 (by kernel_rfl) an (by omega) (by omega) (o28 + i * 3) (by first | (simp; done) | omega) ?_
  refine WLo 49 (.pointer (some ⟨b26, o28 + i * 3, none⟩)) (.agg #[.int .u32 ab.dip, .int .i64 ab.port, .int .i64 ab.weight]) 15 (run_rdN (l := [.int .u32 ab.dip, .int .i64 ab.port, .int .i64 ab.weight]) rfl rfl (fun j u hu => by have hq_ := aa.fr.cell (ao j u hu) (by simp); simpa [Nat.add_assoc] using hq_)) ?_
  refine WLc rfl rfl rfl rfl rfl (by kernel_rfl) (dipIs_ct g e0 ab ar (aa.fr.has hg (by simp))) ?_
  rintro _ aA ⟨rfl, ap⟩
  refine ⟨_, rfl, ?_⟩
  have ak := aa.call ap
  refine WLd rfl (QXn (aj _ _ ?_))
  refine WCa 16 (ab.dip == e0.dip) rfl (fun ag => ?_) (fun ag => ?_)
  ·
   refine WCt rfl ?_
   refine WCs (fun aB al => ?_)
   refine WCg (WLq 2 [(4, .int .i64 (i : Int)), (17, .int .i64 (i : Int))] (WLd rfl (QXn (al _ _ ?_))))
   refine WC.ret ?_
   refine QXk ?_
   refine QXr ?_
   refine QXr ?_
   refine QXk ?_
   refine QXr ?_
   refine (hret _ _ _ rfl ?_).1
   clear hN hret hret' al aj ai ah ad ac hK6 hK4 hK2
   have hh_ := any_snocD (e := e0) af
   rw [ag, Bool.or_true] at hh_
   exact ⟨_, rfl, ak.fr, by rw [any_subD hh_]; exact decide_eq_true (by omega), by omega⟩
  ·
   refine WCf rfl (WC.skip ?_)
   refine QXb ?_
   refine QXn (ah _ _ ?_)
   refine WCg (WLq 1 [(18, .int .i64 (IntKind.i64.wrap ((i : Int) + 1)))] ?_)
   refine WLt (show (.int .i64 (IntKind.i64.wrap ((i : Int) + 1)) : Value) = .int .i64 ((i : Int) + 1) from by rw [wrap_in_i64 ((i : Int) + 1) (by omega) (by omega)]) ?_
   refine WLq 1 [(8, .int .i64 ((i : Int) + 1))] ?_
   refine WLd rfl ?_
   refine QXn ?_
   have aq := ak.pick [] [] rfl rfl
   refine fun a_ ha_ => hK8 _ _ _ ?_ ⟨i + 1, rfl, rfl, aq, by omega, by rw [any_snocD af, hall]; simpa using ag⟩ a_ (ha_.weaken (sub_of ⟨rfl, rfl, rfl, rfl, rfl, trivial⟩))
   omega
 ·
  have au : (xs.length : Int) ≤ (i : Int) := by have q_ := of_decide_eq_false ae; omega
  refine WCf rfl ?_
  refine WC.exit ?_
  refine QXe ?_
  refine QXe ?_
  refine QX.block_hit ?_
  refine QXn (hK4 _ _ ?_)
  refine WCs (fun aC am => ?_)
  refine WCg (WLq 1 [(4, .int .i64 (-1))] (WLd rfl (QXn (am _ _ ?_))))
  refine WC.ret ?_
  refine (hret _ _ _ rfl ?_).1
  clear hN hret hret' am ad ac hK6 hK4 hK2
  rw [List.take_of_length_le (by omega)] at hall
  exact ⟨-1, rfl, aa.fr, by rw [hall]; rfl, by omega⟩

theorem ContE_ct (g : Nat) (e0 : EndV) (A : Option Addr) (c : Nat) (xs : List EndV) (w : World) (hg : w.heap[g]? = some (.cells #[.int .u32 e0.dip, .int .i64 e0.port, .int .i64 e0.weight] 49 (0, 0))) (hr : Rd w 3 cellsE A xs) (hl : xs.length ≤ 1099511627776) : Calls Try.prog 44 #[.slice A xs.length c, .func (.func 45) #[] #[.pointer (some ⟨g, 0, none⟩)]] w fun e w' => e = .returned (.bool (anyDip e0 xs)) ∧ Fr w w' [] := by
 refine enterD (n := 9) Try.func44 rfl rfl (Nat.le_of_ble_eq_true rfl) ?_
 intro Q0 hN hret hret'
 have hC := Cx.start w
 refine WCs (fun K1 hK2 => ?_)
 refine WCg (WLq 1 [(4, .bool false)] (WLd rfl (QXn (hK2 _ _ ?_))))
 refine WCs (fun K3 hK4 => ?_)
 refine WCg (WLq 2 [(6, .func (.func 45) #[] #[.pointer (some ⟨g, 0, none⟩)]), (5, .slice A xs.length c)] ?_)
 refine WLc rfl rfl rfl rfl rfl (by kernel_rfl) (IndexE_ct g e0 A c xs w (hC.fr.has hg (by simp)) (Rd.fr hr hC.fr) hl) ?_
 rintro _ w6 ⟨r_, rfl, hF5, hr1_, hr2_⟩
 refine ⟨_, rfl, ?_⟩
 have hC7 := hC.call hF5
 refine WLq 2 [(4, .bool (decide (r_ ≥ 0))), (8, .bool (decide (r_ ≥ 0)))] (WLd rfl (QXn (hK4 _ _ ?_)))
 refine WC.ret ?_
 refine (hret _ _ _ rfl ?_).1
 exact ⟨congrArg (fun b_ => Ending.returned (Value.bool b_)) (by rw [← hr1_]), hC7.fr⟩

theorem ContE_n (g : Nat) (e0 : EndV) (A : Option Addr) (n c : Nat) (xs : List EndV) (w : World) (hg : w.heap[g]? = some (.cells #[.int .u32 e0.dip, .int .i64 e0.port, .int .i64 e0.weight] 49 (0, 0))) (hr : Rd w 3 cellsE A xs) (hn : xs.length = n) (hl : n ≤ 1099511627776) : Calls Try.prog 44 #[.slice A n c, .func (.func 45) #[] #[.pointer (some ⟨g, 0, none⟩)]] w fun e w' => e = .returned (.bool (anyDip e0 xs)) ∧ Fr w w' [] := by subst hn; exact ContE_ct g e0 A c xs w hg hr hl
theorem ringCheck_ct (A : Option Addr) (c : Nat) (ends : List EndV) (w : World) (hr : Rd w 3 cellsE A ends) (hwf : ∀ e ∈ ends, wfE e) (hl : ends.length ≤ 1099511627776) (hlc : ends.length ≤ c) : Calls Try.prog 21 #[.slice A ends.length c] w fun e w' => e = .returned (errV 62 (if goodE ends then 0 else 9)) ∧ Fr w w' [] := by
 refine enterD (n := 59) Try.func21 rfl rfl (Nat.le_of_ble_eq_true rfl) ?_
 intro Q0 hN hret hret'
 have hC := Cx.start w
 refine WCs (fun K1 hK2 => ?_)
 refine WCg (WLq 1 [(2, .nilIface)] (WLd rfl (QXn (hK2 _ _ ?_))))
 refine WCs (fun K3 hK4 => ?_)
 refine WCs (fun K5 hK6 => ?_)
 refine WCg (WLq 3 [(11, .bool (decide ((ends.length : Int) > 64))), (10, .int .i64 (ends.length : Int)), (9, .slice A ends.length c)] (WLd rfl (QXn (hK6 _ _ ?_))))
 refine WCa 11 (decide ((ends.length : Int) > 64)) rfl (fun t7b => ?_) (fun t7b => ?_)
 ·
  have t7 : (64 : Int) < (ends.length : Int) := by have q_ := of_decide_eq_true t7b; omega
  refine WCt rfl ?_
  refine WCs (fun K8 hK9 => ?_)
  refine WCg (WLq 2 [(2, .iface 62 (.int .i64 9)), (12, .iface 62 (.int .i64 9))] (WLd rfl (QXn (hK9 _ _ ?_))))
  refine WC.ret ?_
  refine QXr ?_
  refine (hret _ _ _ rfl ?_).1
  clear hN hret hret' hK9 hK6 hK4 hK2
  rw [ends_long (by omega)]
  exact ⟨rfl, hC.fr⟩
 ·
  have t7 : (ends.length : Int) ≤ 64 := by have q_ := of_decide_eq_false t7b; omega
  refine WCf rfl (WC.skip (QXn (hK4 _ _ ?_)))
  refine WCs (fun a1 ae => ?_)
  refine WCs (fun a2 af => ?_)
  refine WCg (WLq 3 [(15, .int .i64 0), (14, .int .i64 (ends.length : Int)), (13, .slice A ends.length c)] (WLd rfl (QXn (af _ _ ?_))))
  refine WC.block ?_
  refine WC.loop (fun m_ E_ w_ => ∃ (i : Nat), m_ = ends.length - i ∧ E_ = [(0, .slice A ends.length c), (13, .slice A ends.length c), (14, .int .i64 (ends.length : Int)), (15, .int .i64 (i : Int))] ∧ Cx w [] w_ [] [] ∧ (i ≤ ends.length ∧ (ends.take i).all goodE1 = true ∧ ((ends.take i).map (·.dip)).Nodup)) ⟨_, _, ⟨0, rfl, rfl, hC, Nat.zero_le _, rfl, List.nodup_nil⟩, sub_of ⟨rfl, rfl, rfl, rfl, trivial⟩⟩ (fun m17 E_ a3 a4 aJ aK => ?_)
  obtain ⟨i, rfl, rfl, ap, hi, hall, hnd⟩ := aK
  refine WCs (fun a5 ag => ?_)
  refine WCg (WLq 1 [(16, .bool (decide ((i : Int) < (ends.length : Int))))] (WLd rfl (QXn (ag _ _ ?_))))
  refine WCs (fun a6 ah => ?_)
  refine WCa 16 (decide ((i : Int) < (ends.length : Int))) rfl (fun aq => ?_) (fun aq => ?_)
  ·
   have aR : (i : Int) < (ends.length : Int) := by have q_ := of_decide_eq_true aq; omega
   refine WCt rfl ?_
   refine WC.skip ?_
   refine QXn (ah _ _ ?_)
   refine WCs (fun a7 ai => ?_)
   refine WC.block ?_
   refine WCs (fun a8 aj => ?_)
   refine WCg (WLq 1 [(17, .int .i64 (i : Int))] ?_)
   obtain ⟨aa, ad⟩ := get_some (xs := ends) (i := i) (by omega)
   obtain ⟨b31, o33, aL, aM⟩ := hr.at_ _ _ ad
   have hwe_ := hwf _ (List.mem_of_getElem? ad)
   obtain ⟨hwd0_, hwd1_⟩ := hwe_.dip
   refine WLi A ends.length c 18 .i64 (i : Int) b31 o33 i 3 (by kernel_rfl) aL (by omega) (by omega) (o33 + i * 3) (by first | (simp; done) | omega) ?_
   refine WLo 49 (.pointer (some ⟨b31, o33 + i * 3, none⟩)) (.agg #[.int .u32 aa.dip, .int .i64 aa.port, .int .i64 aa.weight]) 19 (run_rdN (l := [.int .u32 aa.dip, .int .i64 aa.port, .int .i64 aa.weight]) rfl rfl (fun j u hu => by have hq_ := ap.fr.cell (aM j u hu) (by simp); simpa [Nat.add_assoc] using hq_)) ?_
   refine WL.newM ap (fun b => .pointer (some ⟨b, 0, none⟩)) (.cells #[.int .u32 0, .int .i64 0, .int .i64 0] 49) 4 (fun _ => by kernel_rfl) (fun am a9 aS aT aN => ?_)
   refine WLq 1 [(3, .int .i64 (i : Int))] ?_
   refine WLs (c' := #[.int .u32 aa.dip, .int .i64 aa.port, .int .i64 aa.weight]) aN 0 49 am 0 (.agg #[.int .u32 aa.dip, .int .i64 aa.port, .int .i64 aa.weight]) (by kernel_rfl) rfl (by kernel_rfl) (fun aU aV ay => ?_)
   refine WLd rfl (QXn (aj _ _ ?_))
   refine WCs (fun ba ak => ?_)
   refine WCg (WLq 1 [(21, .pointer (some ⟨am, 0, none⟩))] ?_)
   refine WLo 23 (.pointer (some ⟨am, 0, none⟩)) (.int .u32 aa.dip) 22 (run_ld (ay.get 0 rfl) rfl) ?_
   refine WLc rfl rfl rfl rfl rfl (by kernel_rfl) (Home_ct aa.dip aU (by omega) (by omega)) ?_
   rintro _ aW ⟨rfl, aO⟩
   refine ⟨_, rfl, ?_⟩
   have ar := ay.call aO
   refine WLq 7 [(7, .bool (isHome aa.dip)), (6, .int .i64 (homeV aa.dip)), (5, .int .i64 (homeN aa.dip)), (26, .bool (isHome aa.dip)), (25, .int .i64 (homeV aa.dip)), (24, .int .i64 (homeN aa.dip)), (20, .tuple #[.int .i64 (homeN aa.dip), .int .i64 (homeV aa.dip), .bool (isHome aa.dip)])] (WLd rfl (QXn (ak _ _ ?_)))
   refine WCs (fun bb al => ?_)
   refine WCg (WLq 2 [(28, .int .i64 (i : Int)), (27, .slice A ends.length c)] ?_)
   have az : i ≤ c := by omega
   refine WL.slc 26 49 3 A A ends.length c 0 i i c none (some (.int .i64 (i : Int))) 29 (by kernel_rfl) (by kernel_rfl) bnd.no (bnd.yes (by omega)) (by omega) az (slcAt_pre _ _ _) (by first | rfl | omega) (by first | rfl | omega) ?_
   have aA := Rd.slc hr 0 i c az (slcAt_pre _ _ _)
   refine WLq 1 [(30, .func (.func 45) #[] #[.pointer (some ⟨am, 0, none⟩)])] ?_
   refine WLc rfl rfl rfl rfl rfl (by kernel_rfl) (ContE_n am aa A i c ((ends.take i).drop 0) aW (ar.get 0 rfl) (Rd.fr aA ar.fr) (by simp only [List.length_drop, List.length_take]; omega) (by omega)) ?_
   rintro _ bc ⟨rfl, aP⟩
   refine ⟨_, rfl, ?_⟩
   have ac := ar.call aP
   refine WLq 1 [(8, .bool (anyDip aa ((ends.take i).drop 0)))] (WLd rfl (QXn (al _ _ ?_)))
   refine WCs (fun bd ab => ?_)
   refine WCg (WLq 3 [(34, .bool (!(isHome aa.dip))), (33, .bool (!(isHome aa.dip))), (32, .bool (isHome aa.dip))] ?_)
   refine WLa 34 (!(isHome aa.dip)) rfl (fun an => ?_) (fun an => ?_)
   ·
    have aI : (isHome aa.dip) = false := by first | (simpa only [Bool.not_eq_true', Bool.not_eq_false'] using an) | simpa using an
    refine WLq 22 [(56, .bool true), (55, undef), (54, undef), (53, undef), (52, .bool true), (51, .bool true), (50, undef), (49, undef), (48, undef), (47, .bool true), (46, .bool true), (45, undef), (44, undef), (43, undef), (42, .bool true), (41, .bool true), (40, undef), (39, undef), (38, undef), (37, .bool true), (36, .bool true), (35, undef)] (WLd rfl (QXn (ab _ _ ?_)))
    refine WCt rfl ?_
    refine WCs (fun be aB => ?_)
    refine WCg (WLq 2 [(2, .iface 62 (.int .i64 9)), (57, .iface 62 (.int .i64 9))] (WLd rfl (QXn (aB _ _ ?_))))
    refine WC.ret ?_
    refine QXk ?_
    refine QXr ?_
    refine QXr ?_
    refine QXk ?_
    refine QXr ?_
    refine (hret _ _ _ rfl ?_).1
    clear hN hret hret' aB ab al ak aj ai ah ag af ae hK6 hK4 hK2
    rw [ends_bad1 ad (goodE1_home aI)]
    exact ⟨rfl, ac.fr⟩
   ·
    have aI : (isHome aa.dip) = true := by first | (simpa only [Bool.not_eq_true', Bool.not_eq_false'] using an) | simpa using an
    refine WLq 3 [(37, .bool (anyDip aa ((ends.take i).drop 0))), (36, .bool (anyDip aa ((ends.take i).drop 0))), (35, .bool (anyDip aa ((ends.take i).drop 0)))] ?_
    refine WLa 37 (anyDip aa ((ends.take i).drop 0)) rfl (fun ao => ?_) (fun ao => ?_)
    ·
     refine WLq 19 [(56, .bool true), (55, undef), (54, undef), (53, undef), (52, .bool true), (51, .bool true), (50, undef), (49, undef), (48, undef), (47, .bool true), (46, .bool true), (45, undef), (44, undef), (43, undef), (42, .bool true), (41, .bool true), (40, undef), (39, undef), (38, undef)] (WLd rfl (QXn (ab _ _ ?_)))
     refine WCt rfl ?_
     refine WCs (fun bf aC => ?_)
     refine WCg (WLq 2 [(2, .iface 62 (.int .i64 9)), (57, .iface 62 (.int .i64 9))] (WLd rfl (QXn (aC _ _ ?_))))
     refine WC.ret ?_
     refine QXk ?_
     refine QXr ?_
     refine QXr ?_
     refine QXk ?_
     refine QXr ?_
     refine (hret _ _ _ rfl ?_).1
     clear hN hret hret' aC ab al ak aj ai ah ag af ae hK6 hK4 hK2
     rw [ends_bad2 ad (by simpa using ao)]
     exact ⟨rfl, ac.fr⟩
    ·
     refine WLq 1 [(38, .pointer (some ⟨am, 1, none⟩))] ?_
     refine WLo 3 (.pointer (some ⟨am, 1, none⟩)) (.int .i64 aa.port) 39 (run_ld (ac.get 0 rfl) rfl) ?_
     refine WLq 3 [(42, .bool (decide (aa.port < 0))), (41, .bool (decide (aa.port < 0))), (40, .bool (decide (aa.port < 0)))] ?_
     refine WLa 42 (decide (aa.port < 0)) rfl (fun au => ?_) (fun au => ?_)
     ·
      have aX : aa.port < 0 := by have q_ := of_decide_eq_true au; omega
      refine WLq 14 [(56, .bool true), (55, undef), (54, undef), (53, undef), (52, .bool true), (51, .bool true), (50, undef), (49, undef), (48, undef), (47, .bool true), (46, .bool true), (45, undef), (44, undef), (43, undef)] (WLd rfl (QXn (ab _ _ ?_)))
      refine WCt rfl ?_
      refine WCs (fun bg aD => ?_)
      refine WCg (WLq 2 [(2, .iface 62 (.int .i64 9)), (57, .iface 62 (.int .i64 9))] (WLd rfl (QXn (aD _ _ ?_))))
      refine WC.ret ?_
      refine QXk ?_
      refine QXr ?_
      refine QXr ?_
      refine QXk ?_
      refine QXr ?_
      refine (hret _ _ _ rfl ?_).1
      clear hN hret hret' aD ab al ak aj ai ah ag af ae hK6 hK4 hK2
      rw [ends_bad1 ad (goodE1_no (by omega))]
      exact ⟨rfl, ac.fr⟩
     ·
      have aX : (0 : Int) ≤ aa.port := by have q_ := of_decide_eq_false au; omega
      refine WLq 1 [(43, .pointer (some ⟨am, 1, none⟩))] ?_
      refine WLo 3 (.pointer (some ⟨am, 1, none⟩)) (.int .i64 aa.port) 44 (run_ld (ac.get 0 rfl) rfl) ?_
      refine WLq 3 [(47, .bool (decide (aa.port > 65535))), (46, .bool (decide (aa.port > 65535))), (45, .bool (decide (aa.port > 65535)))] ?_
      refine WLa 47 (decide (aa.port > 65535)) rfl (fun av => ?_) (fun av => ?_)
      ·
       have aY : (65535 : Int) < aa.port := by have q_ := of_decide_eq_true av; omega
       refine WLq 9 [(56, .bool true), (55, undef), (54, undef), (53, undef), (52, .bool true), (51, .bool true), (50, undef), (49, undef), (48, undef)] (WLd rfl (QXn (ab _ _ ?_)))
       refine WCt rfl ?_
       refine WCs (fun bh aE => ?_)
       refine WCg (WLq 2 [(2, .iface 62 (.int .i64 9)), (57, .iface 62 (.int .i64 9))] (WLd rfl (QXn (aE _ _ ?_))))
       refine WC.ret ?_
       refine QXk ?_
       refine QXr ?_
       refine QXr ?_
       refine QXk ?_
       refine QXr ?_
       refine (hret _ _ _ rfl ?_).1
       clear hN hret hret' aE ab al ak aj ai ah ag af ae hK6 hK4 hK2
       rw [ends_bad1 ad (goodE1_no (by omega))]
       exact ⟨rfl, ac.fr⟩
      ·
       have aY : aa.port ≤ 65535 := by have q_ := of_decide_eq_false av; omega
       refine WLq 1 [(48, .pointer (some ⟨am, 2, none⟩))] ?_
       refine WLo 3 (.pointer (some ⟨am, 2, none⟩)) (.int .i64 aa.weight) 49 (run_ld (ac.get 0 rfl) rfl) ?_
       refine WLq 3 [(52, .bool (decide (aa.weight < 1))), (51, .bool (decide (aa.weight < 1))), (50, .bool (decide (aa.weight < 1)))] ?_
       refine WLa 52 (decide (aa.weight < 1)) rfl (fun aw => ?_) (fun aw => ?_)
       ·
        have aZ : aa.weight < 1 := by have q_ := of_decide_eq_true aw; omega
        refine WLq 4 [(56, .bool true), (55, undef), (54, undef), (53, undef)] (WLd rfl (QXn (ab _ _ ?_)))
        refine WCt rfl ?_
        refine WCs (fun bi aF => ?_)
        refine WCg (WLq 2 [(2, .iface 62 (.int .i64 9)), (57, .iface 62 (.int .i64 9))] (WLd rfl (QXn (aF _ _ ?_))))
        refine WC.ret ?_
        refine QXk ?_
        refine QXr ?_
        refine QXr ?_
        refine QXk ?_
        refine QXr ?_
        refine (hret _ _ _ rfl ?_).1
        clear hN hret hret' aF ab al ak aj ai ah ag af ae hK6 hK4 hK2
        rw [ends_bad1 ad (goodE1_no (by omega))]
        exact ⟨rfl, ac.fr⟩
       ·
        have aZ : (1 : Int) ≤ aa.weight := by have q_ := of_decide_eq_false aw; omega
        refine WLq 1 [(53, .pointer (some ⟨am, 2, none⟩))] ?_
        refine WLo 3 (.pointer (some ⟨am, 2, none⟩)) (.int .i64 aa.weight) 54 (run_ld (ac.get 0 rfl) rfl) ?_
        refine WLq 2 [(56, .bool (decide (aa.weight > 16))), (55, .bool (decide (aa.weight > 16)))] (WLd rfl (QXn (ab _ _ ?_)))
        refine WCa 56 (decide (aa.weight > 16)) rfl (fun ax => ?_) (fun ax => ?_)
        ·
         have a0 : (16 : Int) < aa.weight := by have q_ := of_decide_eq_true ax; omega
         refine WCt rfl ?_
         refine WCs (fun bj aG => ?_)
         refine WCg (WLq 2 [(2, .iface 62 (.int .i64 9)), (57, .iface 62 (.int .i64 9))] (WLd rfl (QXn (aG _ _ ?_))))
         refine WC.ret ?_
         refine QXk ?_
         refine QXr ?_
         refine QXr ?_
         refine QXk ?_
         refine QXr ?_
         refine (hret _ _ _ rfl ?_).1
         clear hN hret hret' aG ab al ak aj ai ah ag af ae hK6 hK4 hK2
         rw [ends_bad1 ad (goodE1_no (by omega))]
         exact ⟨rfl, ac.fr⟩
        ·
         have a0 : aa.weight ≤ 16 := by have q_ := of_decide_eq_false ax; omega
         refine WCf rfl (WC.skip ?_)
         refine QXb ?_
         refine QXn (ai _ _ ?_)
         refine WCg (WLq 1 [(58, .int .i64 (IntKind.i64.wrap ((i : Int) + 1)))] ?_)
         refine WLt (show (.int .i64 (IntKind.i64.wrap ((i : Int) + 1)) : Value) = .int .i64 ((i : Int) + 1) from by rw [wrap_in_i64 ((i : Int) + 1) (by omega) (by omega)]) ?_
         refine WLq 1 [(15, .int .i64 ((i : Int) + 1))] ?_
         refine WLd rfl ?_
         refine QXn ?_
         have aQ := ac.pick [] [] rfl rfl
         refine fun a_ ha_ => aJ _ _ _ ?_ ⟨i + 1, rfl, rfl, aQ, by omega, (ends_step ad hall hnd (goodE1_yes aI (by omega) (by omega) (by omega) (by omega)) (by simpa using ao)).1, (ends_step ad hall hnd (goodE1_yes aI (by omega) (by omega) (by omega) (by omega)) (by simpa using ao)).2⟩ a_ (ha_.weaken (sub_of ⟨rfl, rfl, rfl, rfl, trivial⟩))
         omega
  ·
   have aR : (ends.length : Int) ≤ (i : Int) := by have q_ := of_decide_eq_false aq; omega
   refine WCf rfl ?_
   refine WC.exit ?_
   refine QXe ?_
   refine QXe ?_
   refine QX.block_hit ?_
   refine QXn (ae _ _ ?_)
   refine WCs (fun bk aH => ?_)
   refine WCg (WLq 1 [(2, .nilIface)] (WLd rfl (QXn (aH _ _ ?_))))
   refine WC.ret ?_
   refine (hret _ _ _ rfl ?_).1
   clear hN hret hret' aH ah ag af ae hK6 hK4 hK2
   have hie_ : i = ends.length := by omega
   rw [List.take_of_length_le (by omega)] at hall hnd
   rw [ends_good (by omega) hall hnd]
   exact ⟨rfl, ap.fr⟩

theorem Dip2_ct (h v : Int) (w : World) (h0 : 0 ≤ h ∧ h < 8) (v0 : 0 ≤ v ∧ v < 16) : Calls Try.prog 65 #[.int .i64 h, .int .i64 v] w fun e w' => e = .returned (.int .u32 (167837696 + 256 * h + v)) ∧ Fr w w' [] := by
 refine enterD (n := 11) Try.func65 rfl rfl (Nat.le_of_ble_eq_true rfl) ?_
 intro Q0 hN hret hret'
 have hC := Cx.start w
 refine WCs (fun K1 hK2 => ?_)
 refine WCg (WLq 1 [(4, .int .u32 0)] (WLd rfl (QXn (hK2 _ _ ?_))))
 refine WCs (fun K3 hK4 => ?_)
 refine WCg (WLq 2 [(6, .int .i64 (IntKind.i64.wrap (256 * h))), (5, .int .i64 h)] ?_)
 refine WLt (show (.int .i64 (IntKind.i64.wrap (256 * h)) : Value) = .int .i64 (256 * h) from by rw [wrap_in_i64 (256 * h) (by omega) (by omega)]) ?_
 refine WLq 1 [(7, .int .i64 (IntKind.i64.wrap (167837696 + (256 * h))))] ?_
 refine WLt (show (.int .i64 (IntKind.i64.wrap (167837696 + (256 * h))) : Value) = .int .i64 (167837696 + (256 * h)) from by rw [wrap_in_i64 (167837696 + (256 * h)) (by omega) (by omega)]) ?_
 refine WLq 2 [(9, .int .i64 (IntKind.i64.wrap ((167837696 + (256 * h)) + v))), (8, .int .i64 v)] ?_
 refine WLt (show (.int .i64 (IntKind.i64.wrap ((167837696 + (256 * h)) + v)) : Value) = .int .i64 ((167837696 + (256 * h)) + v) from by rw [wrap_in_i64 ((167837696 + (256 * h)) + v) (by omega) (by omega)]) ?_
 refine WLq 1 [(10, .int .u32 (IntKind.u32.wrap ((167837696 + (256 * h)) + v)))] ?_
 refine WLt (show (.int .u32 (IntKind.u32.wrap ((167837696 + (256 * h)) + v)) : Value) = .int .u32 ((167837696 + (256 * h)) + v) from by rw [wrap_in_u32 ((167837696 + (256 * h)) + v) (by omega) (by omega)]) ?_
 refine WLq 1 [(4, .int .u32 ((167837696 + (256 * h)) + v))] (WLd rfl (QXn (hK4 _ _ ?_)))
 refine WC.ret ?_
 refine (hret _ _ _ rfl ?_).1
 exact ⟨rfl, hC.fr⟩

theorem Home2_ct (a : Int) (w : World) (h0 : 0 ≤ a) (h1 : a ≤ 4294967295) : Calls Try.prog 46 #[.int .u32 a] w fun e w' => ∃ h v : Int, e = .returned (.tuple #[.int .i64 h, .int .i64 v, .bool (isHome a)]) ∧ Fr w w' [] := by
 refine enterD (n := 22) Try.func46 rfl rfl (Nat.le_of_ble_eq_true rfl) ?_
 intro Q0 hN hret hret'
 have hC := Cx.start w
 refine WCs (fun K1 hK2 => ?_)
 refine WCg (WLq 3 [(4, .bool false), (3, .int .i64 0), (2, .int .i64 0)] (WLd rfl (QXn (hK2 _ _ ?_))))
 refine WCs (fun K3 hK4 => ?_)
 refine WCs (fun K5 hK6 => ?_)
 refine WCg (WLq 1 [(5, .int .i64 0)] (WLd rfl (QXn (hK6 _ _ ?_))))
 refine WC.block ?_
 refine WC.loop (fun m_ E_ w_ => ∃ (h : Nat), m_ = 8 - h ∧ E_ = [(0, .int .u32 a), (5, .int .i64 (h : Int))] ∧ Cx w [] w_ [] [] ∧ (h ≤ 8 ∧ ∀ h' v' : Nat, h' < h → v' < 16 → 167837696 + 256 * (h' : Int) + (v' : Int) ≠ a)) ⟨_, _, ⟨0, rfl, rfl, hC, Nat.zero_le _, fun h' v' q => absurd q (Nat.not_lt_zero _)⟩, sub_of ⟨rfl, rfl, trivial⟩⟩ (fun m10 E_ aB K7 hK8 hI9 => ?_)
 obtain ⟨h, rfl, rfl, ad, hh, hno⟩ := hI9
 refine WCs (fun aC ae => ?_)
 refine WCs (fun aD af => ?_)
 refine WCg (WLq 2 [(8, .bool (decide ((h : Int) < 8))), (7, .int .i64 (h : Int))] (WLd rfl (QXn (af _ _ ?_))))
 refine WCa 8 (decide ((h : Int) < 8)) rfl (fun aa => ?_) (fun aa => ?_)
 ·
  have ax : (h : Int) < 8 := by have q_ := of_decide_eq_true aa; omega
  refine WCt rfl ?_
  refine WC.skip ?_
  refine QXn (ae _ _ ?_)
  refine WCs (fun aE ag => ?_)
  refine WC.block ?_
  refine WCs (fun aF ah => ?_)
  refine WCg (WLq 1 [(6, .int .i64 0)] (WLd rfl (QXn (ah _ _ ?_))))
  refine WC.block ?_
  refine WC.loop (fun m_ E_ w_ => ∃ (v : Nat), m_ = 16 - v ∧ E_ = [(0, .int .u32 a), (5, .int .i64 (h : Int)), (6, .int .i64 (v : Int)), (7, .int .i64 (h : Int)), (8, .bool true)] ∧ Cx w [] w_ [] [] ∧ (v ≤ 16 ∧ ∀ v' : Nat, v' < v → 167837696 + 256 * (h : Int) + (v' : Int) ≠ a)) ⟨_, _, ⟨0, rfl, rfl, ad, Nat.zero_le _, fun v' q => absurd q (Nat.not_lt_zero _)⟩, sub_of ⟨rfl, rfl, rfl, rfl, rfl, trivial⟩⟩ (fun m25 E_ ay aG ap aq => ?_)
  obtain ⟨v, rfl, rfl, ai, hv, hno2⟩ := aq
  refine WCs (fun aH aj => ?_)
  refine WCs (fun aI ak => ?_)
  refine WCg (WLq 2 [(12, .bool (decide ((v : Int) < 16))), (11, .int .i64 (v : Int))] (WLd rfl (QXn (ak _ _ ?_))))
  refine WCa 12 (decide ((v : Int) < 16)) rfl (fun ab => ?_) (fun ab => ?_)
  ·
   have az : (v : Int) < 16 := by have q_ := of_decide_eq_true ab; omega
   refine WCt rfl ?_
   refine WC.skip ?_
   refine QXn (aj _ _ ?_)
   refine WCs (fun aJ al => ?_)
   refine WC.block ?_
   refine WCs (fun aK am => ?_)
   refine WCg (WLq 2 [(16, .int .i64 (v : Int)), (15, .int .i64 (h : Int))] ?_)
   refine WLc rfl rfl rfl rfl rfl (by kernel_rfl) (Dip2_ct (h : Int) (v : Int) ay (by omega) (by omega)) ?_
   rintro _ aL ⟨rfl, ar⟩
   refine ⟨_, rfl, ?_⟩
   have an := ai.call ar
   refine WLq 2 [(19, .bool ((167837696 + 256 * (h : Int) + (v : Int)) == a)), (18, .int .u32 a)] (WLd rfl (QXn (am _ _ ?_)))
   refine WCa 19 ((167837696 + 256 * (h : Int) + (v : Int)) == a) rfl (fun ac => ?_) (fun ac => ?_)
   ·
    have aA : (167837696 + 256 * (h : Int) + (v : Int)) = a := by simpa using ac
    refine WCt rfl ?_
    refine WCs (fun aM ao => ?_)
    refine WCg (WLq 5 [(4, .bool true), (3, .int .i64 (v : Int)), (2, .int .i64 (h : Int)), (21, .int .i64 (v : Int)), (20, .int .i64 (h : Int))] (WLd rfl (QXn (ao _ _ ?_))))
    refine WC.ret ?_
    refine QXk ?_
    refine QXr ?_
    refine QXr ?_
    refine QXk ?_
    refine QXk ?_
    refine QXr ?_
    refine QXr ?_
    refine QXk ?_
    refine QXr ?_
    refine (hret _ _ _ rfl ?_).1
    clear hN hret hret' ao am al ak aj ah ag af ae hK6 hK4 hK2
    exact ⟨_, _, by rw [home_some (h := h) (v := v) (by omega) (by omega) (by assumption)]; rfl, an.fr⟩
   ·
    have aA : ¬ ((167837696 + 256 * (h : Int) + (v : Int)) = a) := by simpa using ac
    refine WCf rfl (WC.skip ?_)
    refine QXb ?_
    refine QXn (al _ _ ?_)
    refine WCg (WLq 2 [(14, .int .i64 (IntKind.i64.wrap ((v : Int) + 1))), (13, .int .i64 (v : Int))] ?_)
    refine WLt (show (.int .i64 (IntKind.i64.wrap ((v : Int) + 1)) : Value) = .int .i64 ((v : Int) + 1) from by rw [wrap_in_i64 ((v : Int) + 1) (by omega) (by omega)]) ?_
    refine WLq 1 [(6, .int .i64 ((v : Int) + 1))] ?_
    refine WLd rfl ?_
    refine QXn ?_
    have au := an.pick [] [] rfl rfl
    refine fun a_ ha_ => ap _ _ _ ?_ ⟨v + 1, rfl, rfl, au, by omega, fun v' q1 => by
     by_cases e_ : v' = v
     ·
      subst e_; assumption
     ·
      exact hno2 v' (by omega)⟩ a_ (ha_.weaken (sub_of ⟨rfl, rfl, rfl, rfl, rfl, trivial⟩))
    omega
  ·
   have az : (16 : Int) ≤ (v : Int) := by have q_ := of_decide_eq_false ab; omega
   refine WCf rfl ?_
   refine WC.exit ?_
   refine QXe ?_
   refine QXe ?_
   refine QX.block_hit ?_
   refine QXb ?_
   refine QXn (ag _ _ ?_)
   refine WCg (WLq 2 [(10, .int .i64 (IntKind.i64.wrap ((h : Int) + 1))), (9, .int .i64 (h : Int))] ?_)
   refine WLt (show (.int .i64 (IntKind.i64.wrap ((h : Int) + 1)) : Value) = .int .i64 ((h : Int) + 1) from by rw [wrap_in_i64 ((h : Int) + 1) (by omega) (by omega)]) ?_
   refine WLq 1 [(5, .int .i64 ((h : Int) + 1))] ?_
   refine WLd rfl ?_
   refine QXn ?_
   have av := ai.pick [] [] rfl rfl
   refine fun a_ ha_ => hK8 _ _ _ ?_ ⟨h + 1, rfl, rfl, av, by omega, fun h' v' q1 q2 => by
    by_cases e_ : h' = h
    ·
     subst e_; exact hno2 v' (by omega)
    ·
     exact hno h' v' (by omega) q2⟩ a_ (ha_.weaken (sub_of ⟨rfl, rfl, trivial⟩))
   omega
 ·
  have ax : (8 : Int) ≤ (h : Int) := by have q_ := of_decide_eq_false aa; omega
  refine WCf rfl ?_
  refine WC.exit ?_
  refine QXe ?_
  refine QXe ?_
  refine QX.block_hit ?_
  refine QXn (hK4 _ _ ?_)
  refine WCs (fun aN aw => ?_)
  refine WCg (WLq 3 [(4, .bool false), (3, .int .i64 0), (2, .int .i64 0)] (WLd rfl (QXn (aw _ _ ?_))))
  refine WC.ret ?_
  refine (hret _ _ _ rfl ?_).1
  exact ⟨_, _, by rw [home_none (fun h' v' q1 q2 => hno h' v' (by omega) q2)]; rfl, ad.fr⟩

theorem REnds_ct (A : Option Addr) (c : Nat) (ends : List EndV) (w : World) (hr : Rd w 3 cellsE A ends) (hwf : ∀ e ∈ ends, wfE e) (hl : ends.length ≤ 1099511627776) : Calls Try.prog 22 #[.slice A ends.length c] w fun e w' => e = .returned (.bool (goodE ends)) ∧ Fr w w' [] := by
 refine enterD (n := 77) Try.func22 rfl rfl (Nat.le_of_ble_eq_true rfl) ?_
 intro Q0 hN hret hret'
 have hC := Cx.start w
 refine WCs (fun K1 hK2 => ?_)
 refine WCg (WLq 1 [(2, .bool false)] (WLd rfl (QXn (hK2 _ _ ?_))))
 refine WCs (fun K3 hK4 => ?_)
 refine WCs (fun K5 hK6 => ?_)
 refine WCg (WLq 3 [(10, .bool (decide ((ends.length : Int) > 64))), (9, .int .i64 (ends.length : Int)), (8, .slice A ends.length c)] (WLd rfl (QXn (hK6 _ _ ?_))))
 refine WCa 10 (decide ((ends.length : Int) > 64)) rfl (fun t7b => ?_) (fun t7b => ?_)
 ·
  have t7 : (64 : Int) < (ends.length : Int) := by have q_ := of_decide_eq_true t7b; omega
  refine WCt rfl ?_
  refine WCs (fun K8 hK9 => ?_)
  refine WCg (WLq 1 [(2, .bool false)] (WLd rfl (QXn (hK9 _ _ ?_))))
  refine WC.ret ?_
  refine QXr ?_
  refine (hret _ _ _ rfl ?_).1
  clear hN hret hret' hK9 hK6 hK4 hK2
  rw [ends_long (by omega)]
  exact ⟨rfl, hC.fr⟩
 ·
  have t7 : (ends.length : Int) ≤ 64 := by have q_ := of_decide_eq_false t7b; omega
  refine WCf rfl (WC.skip (QXn (hK4 _ _ ?_)))
  refine WCs (fun bj af => ?_)
  refine WCs (fun bk ag => ?_)
  refine WCg (WLq 1 [(3, .int .i64 0)] (WLd rfl (QXn (ag _ _ ?_))))
  refine WC.block ?_
  refine WC.loop (fun m_ E_ w_ => ∃ (i : Nat), m_ = ends.length - i ∧ E_ = [(0, .slice A ends.length c), (3, .int .i64 (i : Int))] ∧ Cx w [] w_ [] [] ∧ (i ≤ ends.length ∧ (ends.take i).all goodE1 = true ∧ ((ends.take i).map (·.dip)).Nodup)) ⟨_, _, ⟨0, rfl, rfl, hC, Nat.zero_le _, rfl, List.nodup_nil⟩, sub_of ⟨rfl, rfl, trivial⟩⟩ (fun m17 E_ a9 bl aZ a0 => ?_)
  obtain ⟨i, rfl, rfl, aB, hi, hall, hnd⟩ := a0
  refine WCs (fun bm ah => ?_)
  refine WCs (fun bn ai => ?_)
  refine WCg (WLq 4 [(14, .bool (decide ((i : Int) < (ends.length : Int)))), (13, .int .i64 (ends.length : Int)), (12, .slice A ends.length c), (11, .int .i64 (i : Int))] (WLd rfl (QXn (ai _ _ ?_))))
  refine WCa 14 (decide ((i : Int) < (ends.length : Int))) rfl (fun aC => ?_) (fun aC => ?_)
  ·
   have ba : (i : Int) < (ends.length : Int) := by have q_ := of_decide_eq_true aC; omega
   refine WCt rfl ?_
   refine WC.skip ?_
   refine QXn (ah _ _ ?_)
   refine WCs (fun bo aj => ?_)
   refine WC.block ?_
   refine WCs (fun bp ak => ?_)
   refine WCg (WLq 2 [(19, .int .i64 (i : Int)), (18, .slice A ends.length c)] ?_)
   obtain ⟨aa, ae⟩ := get_some (xs := ends) (i := i) (by omega)
   obtain ⟨b31, o33, an, ao⟩ := hr.at_ _ _ ae
   have av := hwf _ (List.mem_of_getElem? ae)
   obtain ⟨hwd0_e29, hwd1_e29⟩ := av.dip
   refine WLi A ends.length c 20 .i64 (i : Int) b31 o33 i 3 (by kernel_rfl) an (by omega) (by omega) (o33 + i * 3) (by first | (simp; done) | omega) ?_
   refine WLq 1 [(21, .pointer (some ⟨b31, o33 + i * 3, none⟩))] ?_
   refine WLo 23 (.pointer (some ⟨b31, o33 + i * 3, none⟩)) (.int .u32 aa.dip) 22 (run_load1 rfl (by simpa [Nat.add_assoc] using aB.fr.cell (ao 0 _ rfl) (by simp))) ?_
   refine WLc rfl rfl rfl rfl rfl (by kernel_rfl) (Home2_ct aa.dip a9 (by omega) (by omega)) ?_
   rintro _ bq ⟨a1, a2, rfl, a3⟩
   refine ⟨_, rfl, ?_⟩
   have ad := aB.call a3
   refine WLq 7 [(6, .bool (isHome aa.dip)), (5, .int .i64 a2), (4, .int .i64 a1), (26, .bool (isHome aa.dip)), (25, .int .i64 a2), (24, .int .i64 a1), (17, .tuple #[.int .i64 a1, .int .i64 a2, .bool (isHome aa.dip)])] (WLd rfl (QXn (ak _ _ ?_)))
   refine WCs (fun br al => ?_)
   refine WCs (fun bs ab => ?_)
   refine WCg (WLq 3 [(29, .bool (!(isHome aa.dip))), (28, .bool (!(isHome aa.dip))), (27, .bool (isHome aa.dip))] ?_)
   refine WLa 29 (!(isHome aa.dip)) rfl (fun ap => ?_) (fun ap => ?_)
   ·
    have a4 : (isHome aa.dip) = false := by first | (simpa only [Bool.not_eq_true', Bool.not_eq_false'] using ap) | simpa using ap
    refine WLq 31 [(60, .bool true), (59, undef), (58, undef), (57, undef), (56, undef), (55, undef), (54, undef), (53, .bool true), (52, .bool true), (51, undef), (50, undef), (49, undef), (48, undef), (47, undef), (46, undef), (45, .bool true), (44, .bool true), (43, undef), (42, undef), (41, undef), (40, undef), (39, undef), (38, undef), (37, .bool true), (36, .bool true), (35, undef), (34, undef), (33, undef), (32, undef), (31, undef), (30, undef)] (WLd rfl (QXn (ab _ _ ?_)))
    refine WCt rfl ?_
    refine WCs (fun bt aI => ?_)
    refine WCg (WLq 1 [(2, .bool false)] (WLd rfl (QXn (aI _ _ ?_))))
    refine WC.ret ?_
    refine QXr ?_
    refine QXk ?_
    refine QXr ?_
    refine QXr ?_
    refine QXk ?_
    refine QXr ?_
    refine (hret _ _ _ rfl ?_).1
    clear hN hret hret' aI ab al ak aj ai ah ag af hK6 hK4 hK2
    rw [ends_bad1 ae (goodE1_home (by simpa using a4))]
    exact ⟨rfl, ad.fr⟩
   ·
    have a4 : (isHome aa.dip) = true := by first | (simpa only [Bool.not_eq_true', Bool.not_eq_false'] using ap) | simpa using ap
    refine WLq 2 [(31, .int .i64 (i : Int)), (30, .slice A ends.length c)] ?_
    refine WLi A ends.length c 32 .i64 (i : Int) b31 o33 i 3 (by kernel_rfl) an (by omega) (by omega) (o33 + i * 3) (by first | (simp; done) | omega) ?_
    refine WLq 1 [(33, .pointer (some ⟨b31, o33 + i * 3 + 1, none⟩))] ?_
    refine WLo 3 (.pointer (some ⟨b31, o33 + i * 3 + 1, none⟩)) (.int .i64 aa.port) 34 (run_load1 rfl (by simpa [Nat.add_assoc] using ad.fr.cell (ao 1 _ rfl) (by simp))) ?_
    refine WLq 3 [(37, .bool (decide (aa.port < 0))), (36, .bool (decide (aa.port < 0))), (35, .bool (decide (aa.port < 0)))] ?_
    refine WLa 37 (decide (aa.port < 0)) rfl (fun aD => ?_) (fun aD => ?_)
    ·
     have bb : aa.port < 0 := by have q_ := of_decide_eq_true aD; omega
     refine WLq 23 [(60, .bool true), (59, undef), (58, undef), (57, undef), (56, undef), (55, undef), (54, undef), (53, .bool true), (52, .bool true), (51, undef), (50, undef), (49, undef), (48, undef), (47, undef), (46, undef), (45, .bool true), (44, .bool true), (43, undef), (42, undef), (41, undef), (40, undef), (39, undef), (38, undef)] (WLd rfl (QXn (ab _ _ ?_)))
     refine WCt rfl ?_
     refine WCs (fun bu aJ => ?_)
     refine WCg (WLq 1 [(2, .bool false)] (WLd rfl (QXn (aJ _ _ ?_))))
     refine WC.ret ?_
     refine QXr ?_
     refine QXk ?_
     refine QXr ?_
     refine QXr ?_
     refine QXk ?_
     refine QXr ?_
     refine (hret _ _ _ rfl ?_).1
     clear hN hret hret' aJ ab al ak aj ai ah ag af hK6 hK4 hK2
     rw [ends_bad1 ae (goodE1_no (by omega))]
     exact ⟨rfl, ad.fr⟩
    ·
     have bb : (0 : Int) ≤ aa.port := by have q_ := of_decide_eq_false aD; omega
     refine WLq 2 [(39, .int .i64 (i : Int)), (38, .slice A ends.length c)] ?_
     refine WLi A ends.length c 40 .i64 (i : Int) b31 o33 i 3 (by kernel_rfl) an (by omega) (by omega) (o33 + i * 3) (by first | (simp; done) | omega) ?_
     refine WLq 1 [(41, .pointer (some ⟨b31, o33 + i * 3 + 1, none⟩))] ?_
     refine WLo 3 (.pointer (some ⟨b31, o33 + i * 3 + 1, none⟩)) (.int .i64 aa.port) 42 (run_load1 rfl (by simpa [Nat.add_assoc] using ad.fr.cell (ao 1 _ rfl) (by simp))) ?_
     refine WLq 3 [(45, .bool (decide (aa.port > 65535))), (44, .bool (decide (aa.port > 65535))), (43, .bool (decide (aa.port > 65535)))] ?_
     refine WLa 45 (decide (aa.port > 65535)) rfl (fun aE => ?_) (fun aE => ?_)
     ·
      have bc : (65535 : Int) < aa.port := by have q_ := of_decide_eq_true aE; omega
      refine WLq 15 [(60, .bool true), (59, undef), (58, undef), (57, undef), (56, undef), (55, undef), (54, undef), (53, .bool true), (52, .bool true), (51, undef), (50, undef), (49, undef), (48, undef), (47, undef), (46, undef)] (WLd rfl (QXn (ab _ _ ?_)))
      refine WCt rfl ?_
      refine WCs (fun bv aK => ?_)
      refine WCg (WLq 1 [(2, .bool false)] (WLd rfl (QXn (aK _ _ ?_))))
      refine WC.ret ?_
      refine QXr ?_
      refine QXk ?_
      refine QXr ?_
      refine QXr ?_
      refine QXk ?_
      refine QXr ?_
      refine (hret _ _ _ rfl ?_).1
      clear hN hret hret' aK ab al ak aj ai ah ag af hK6 hK4 hK2
      rw [ends_bad1 ae (goodE1_no (by omega))]
      exact ⟨rfl, ad.fr⟩
     ·
      have bc : aa.port ≤ 65535 := by have q_ := of_decide_eq_false aE; omega
      refine WLq 2 [(47, .int .i64 (i : Int)), (46, .slice A ends.length c)] ?_
      refine WLi A ends.length c 48 .i64 (i : Int) b31 o33 i 3 (by kernel_rfl) an (by omega) (by omega) (o33 + i * 3) (by first | (simp; done) | omega) ?_
      refine WLq 1 [(49, .pointer (some ⟨b31, o33 + i * 3 + 2, none⟩))] ?_
      refine WLo 3 (.pointer (some ⟨b31, o33 + i * 3 + 2, none⟩)) (.int .i64 aa.weight) 50 (run_load1 rfl (by simpa [Nat.add_assoc] using ad.fr.cell (ao 2 _ rfl) (by simp))) ?_
      refine WLq 3 [(53, .bool (decide (aa.weight < 1))), (52, .bool (decide (aa.weight < 1))), (51, .bool (decide (aa.weight < 1)))] ?_
      refine WLa 53 (decide (aa.weight < 1)) rfl (fun aF => ?_) (fun aF => ?_)
      ·
       have bd : aa.weight < 1 := by have q_ := of_decide_eq_true aF; omega
       refine WLq 7 [(60, .bool true), (59, undef), (58, undef), (57, undef), (56, undef), (55, undef), (54, undef)] (WLd rfl (QXn (ab _ _ ?_)))
       refine WCt rfl ?_
       refine WCs (fun bw aL => ?_)
       refine WCg (WLq 1 [(2, .bool false)] (WLd rfl (QXn (aL _ _ ?_))))
       refine WC.ret ?_
       refine QXr ?_
       refine QXk ?_
       refine QXr ?_
       refine QXr ?_
       refine QXk ?_
       refine QXr ?_
       refine (hret _ _ _ rfl ?_).1
       clear hN hret hret' aL ab al ak aj ai ah ag af hK6 hK4 hK2
       rw [ends_bad1 ae (goodE1_no (by omega))]
       exact ⟨rfl, ad.fr⟩
      ·
       have bd : (1 : Int) ≤ aa.weight := by have q_ := of_decide_eq_false aF; omega
       refine WLq 2 [(55, .int .i64 (i : Int)), (54, .slice A ends.length c)] ?_
       refine WLi A ends.length c 56 .i64 (i : Int) b31 o33 i 3 (by kernel_rfl) an (by omega) (by omega) (o33 + i * 3) (by first | (simp; done) | omega) ?_
       refine WLq 1 [(57, .pointer (some ⟨b31, o33 + i * 3 + 2, none⟩))] ?_
       refine WLo 3 (.pointer (some ⟨b31, o33 + i * 3 + 2, none⟩)) (.int .i64 aa.weight) 58 (run_load1 rfl (by simpa [Nat.add_assoc] using ad.fr.cell (ao 2 _ rfl) (by simp))) ?_
       refine WLq 2 [(60, .bool (decide (aa.weight > 16))), (59, .bool (decide (aa.weight > 16)))] (WLd rfl (QXn (ab _ _ ?_)))
       refine WCa 60 (decide (aa.weight > 16)) rfl (fun aG => ?_) (fun aG => ?_)
       ·
        have be : (16 : Int) < aa.weight := by have q_ := of_decide_eq_true aG; omega
        refine WCt rfl ?_
        refine WCs (fun bx aM => ?_)
        refine WCg (WLq 1 [(2, .bool false)] (WLd rfl (QXn (aM _ _ ?_))))
        refine WC.ret ?_
        refine QXr ?_
        refine QXk ?_
        refine QXr ?_
        refine QXr ?_
        refine QXk ?_
        refine QXr ?_
        refine (hret _ _ _ rfl ?_).1
        clear hN hret hret' aM ab al ak aj ai ah ag af hK6 hK4 hK2
        rw [ends_bad1 ae (goodE1_no (by omega))]
        exact ⟨rfl, ad.fr⟩
       ·
        have be : aa.weight ≤ 16 := by have q_ := of_decide_eq_false aG; omega
        refine WCf rfl (WC.skip (QXn (al _ _ ?_)))
        refine WCs (fun bz aN => ?_)
        refine WCg (WLq 1 [(7, .int .i64 0)] (WLd rfl (QXn (aN _ _ ?_))))
        refine WC.block ?_
        refine WC.loop (fun m_ E_ w_ => ∃ (j : Nat), m_ = i - j ∧ E_ = [(0, .slice A ends.length c), (3, .int .i64 (i : Int)), (7, .int .i64 (j : Int))] ∧ Cx w [] w_ [] [] ∧ (j ≤ i ∧ ¬ dupK EndV.dip ends i j)) ⟨_, _, ⟨0, rfl, rfl, ad, Nat.zero_le _, dupK_0 _ _ _⟩, sub_of ⟨rfl, rfl, rfl, trivial⟩⟩ (fun m80 E_ bA bB a5 a6 => ?_)
        obtain ⟨j, rfl, rfl, aO, hj, hdup⟩ := a6
        refine WCs (fun bC aP => ?_)
        refine WCs (fun bD aQ => ?_)
        refine WCg (WLq 3 [(63, .bool (decide ((j : Int) < (i : Int)))), (62, .int .i64 (i : Int)), (61, .int .i64 (j : Int))] (WLd rfl (QXn (aQ _ _ ?_))))
        refine WCa 63 (decide ((j : Int) < (i : Int))) rfl (fun aH => ?_) (fun aH => ?_)
        ·
         have bf : (j : Int) < (i : Int) := by have q_ := of_decide_eq_true aH; omega
         refine WCt rfl ?_
         refine WC.skip ?_
         refine QXn (aP _ _ ?_)
         refine WCs (fun bE aR => ?_)
         refine WC.block ?_
         refine WCs (fun bF aS => ?_)
         refine WC.drawC aO [] (by kernel_rfl) (fun bG bg aw ac => ?_)
         refine WDq (NPt (NPb (NPt (NPt (NPb (NPb (NPt (NPt (NPb (NPt hN)))))))))) 0 66 (.slice A ends.length c) ac ?_
         refine WDq (NPt (NPb (NPt (NPt (NPb (NPb (NPt (NPt (NPb (NPt hN)))))))))) 1 67 (.int .i64 (j : Int)) ac ?_
         obtain ⟨aT, ax⟩ := get_some (xs := ends) (i := j) (by omega)
         obtain ⟨b98, o100, a7, aU⟩ := hr.at_ _ _ ax
         have ay := hwf _ (List.mem_of_getElem? ax)
         obtain ⟨hwd0_e96, hwd1_e96⟩ := ay.dip
         refine WDi (NPt (NPb (NPt (NPt (NPb (NPb (NPt (NPt (NPb (NPt hN)))))))))) 2 A ends.length c 68 .i64 (j : Int) b98 o100 j 3 (by kernel_rfl) (by kernel_rfl) a7 (by omega) (by omega) (o100 + j * 3) (by first | (simp; done) | omega) ac ?_
         refine WDq (NPt (NPb (NPt (NPt (NPb (NPb (NPt (NPt (NPb (NPt hN)))))))))) 3 69 (.pointer (some ⟨b98, o100 + j * 3, none⟩)) ac ?_
         refine WDq (NPt (NPb (NPt (NPt (NPb (NPb (NPt (NPt (NPb (NPt hN)))))))))) 5 71 (.slice A ends.length c) ac ?_
         refine WDq (NPt (NPb (NPt (NPt (NPb (NPb (NPt (NPt (NPb (NPt hN)))))))))) 6 72 (.int .i64 (i : Int)) ac ?_
         obtain ⟨aq, am⟩ := get_some (xs := ends) (i := i) (by omega)
         obtain ⟨b104, o106, aV, aW⟩ := hr.at_ _ _ am
         have ar := hwf _ (List.mem_of_getElem? am)
         obtain ⟨hwd0_e102, hwd1_e102⟩ := ar.dip
         refine WDi (NPt (NPb (NPt (NPt (NPb (NPb (NPt (NPt (NPb (NPt hN)))))))))) 7 A ends.length c 73 .i64 (i : Int) b104 o106 i 3 (by kernel_rfl) (by kernel_rfl) aV (by omega) (by omega) (o106 + i * 3) (by first | (simp; done) | omega) ac ?_
         refine WDq (NPt (NPb (NPt (NPt (NPb (NPb (NPt (NPt (NPb (NPt hN)))))))))) 8 74 (.pointer (some ⟨b104, o106 + i * 3, none⟩)) ac ?_
         refine WDm (NPt (NPb (NPt (NPt (NPb (NPb (NPt (NPt (NPb (NPt hN)))))))))) 4 23 (.pointer (some ⟨b98, o100 + j * 3, none⟩)) (.int .u32 aT.dip) 70 (fun _ hS_ => run_load1 rfl (by simpa [Nat.add_assoc] using Fr.cell hS_ (aw.fr.cell (aU 0 _ rfl) (by simp)) (by simp))) ac ?_
         refine WDm (NPt (NPb (NPt (NPt (NPb (NPb (NPt (NPt (NPb (NPt hN)))))))))) 9 23 (.pointer (some ⟨b104, o106 + i * 3, none⟩)) (.int .u32 aq.dip) 75 (fun _ hS_ => run_load1 rfl (by simpa [Nat.add_assoc] using Fr.cell hS_ (aw.fr.cell (aW 0 _ rfl) (by simp)) (by simp))) ac ?_
         refine WDq (NPt (NPb (NPt (NPt (NPb (NPb (NPt (NPt (NPb (NPt hN)))))))))) 10 76 (.bool (aT.dip == aq.dip)) ac ?_
         refine WD.done (by kernel_rfl) ?_
         refine QXn (aS _ _ ?_)
         refine WCa 76 (aT.dip == aq.dip) rfl (fun au => ?_) (fun au => ?_)
         ·
          have a8 : aT.dip = aq.dip := by simpa using au
          refine WCt rfl ?_
          refine WCs (fun bh az => ?_)
          refine WCg (WLq 1 [(2, .bool false)] (WLd rfl (QXn (az _ _ ?_))))
          refine WC.ret ?_
          refine QXk ?_
          refine QXr ?_
          refine QXr ?_
          refine QXk ?_
          refine QXk ?_
          refine QXr ?_
          refine QXr ?_
          refine QXk ?_
          refine QXr ?_
          refine (hret _ _ _ rfl ?_).1
          clear hN hret hret' az aS aR aQ aP aN ab al ak aj ai ah ag af hK6 hK4 hK2
          rw [goodE_no2 (dup_not (f := EndV.dip) am ax (by omega) (by assumption))]
          exact ⟨rfl, aw.fr⟩
         ·
          have a8 : ¬ (aT.dip = aq.dip) := by simpa using au
          refine WCf rfl (WC.skip ?_)
          refine QXb ?_
          refine QXn (aR _ _ ?_)
          refine WCg (WLq 2 [(65, .int .i64 (IntKind.i64.wrap ((j : Int) + 1))), (64, .int .i64 (j : Int))] ?_)
          refine WLt (show (.int .i64 (IntKind.i64.wrap ((j : Int) + 1)) : Value) = .int .i64 ((j : Int) + 1) from by rw [wrap_in_i64 ((j : Int) + 1) (by omega) (by omega)]) ?_
          refine WLq 1 [(7, .int .i64 ((j : Int) + 1))] ?_
          refine WLd rfl ?_
          refine QXn ?_
          have aX := aw.pick [] [] rfl rfl
          refine fun a_ ha_ => a5 _ _ _ ?_ ⟨j + 1, rfl, rfl, aX, by omega, dupK_step hdup am ax (by assumption)⟩ a_ (ha_.weaken (sub_of ⟨rfl, rfl, rfl, trivial⟩))
          omega
        ·
         have bf : (i : Int) ≤ (j : Int) := by have q_ := of_decide_eq_false aH; omega
         refine WCf rfl ?_
         refine WC.exit ?_
         refine QXe ?_
         refine QXe ?_
         refine QX.block_hit ?_
         refine QXb ?_
         refine QXn (aj _ _ ?_)
         refine WCg (WLq 2 [(16, .int .i64 (IntKind.i64.wrap ((i : Int) + 1))), (15, .int .i64 (i : Int))] ?_)
         refine WLt (show (.int .i64 (IntKind.i64.wrap ((i : Int) + 1)) : Value) = .int .i64 ((i : Int) + 1) from by rw [wrap_in_i64 ((i : Int) + 1) (by omega) (by omega)]) ?_
         refine WLq 1 [(3, .int .i64 ((i : Int) + 1))] ?_
         refine WLd rfl ?_
         refine QXn ?_
         have aY := aO.pick [] [] rfl rfl
         refine fun a_ ha_ => aZ _ _ _ ?_ ⟨i + 1, rfl, rfl, aY, by omega, all_snocE hall ae (goodE1_yes (by simpa using a4) (by omega) (by omega) (by omega) (by omega)), nodup_step hnd (by have hj_ : j = i := (by omega); subst hj_; exact hdup) ae⟩ a_ (ha_.weaken (sub_of ⟨rfl, rfl, trivial⟩))
         omega
  ·
   have ba : (ends.length : Int) ≤ (i : Int) := by have q_ := of_decide_eq_false aC; omega
   refine WCf rfl ?_
   refine WC.exit ?_
   refine QXe ?_
   refine QXe ?_
   refine QX.block_hit ?_
   refine QXn (af _ _ ?_)
   refine WCs (fun bi aA => ?_)
   refine WCg (WLq 1 [(2, .bool true)] (WLd rfl (QXn (aA _ _ ?_))))
   refine WC.ret ?_
   refine (hret _ _ _ rfl ?_).1
   clear hN hret hret' aA ai ah ag af hK6 hK4 hK2
   have hie_ : i = ends.length := by omega
   rw [List.take_of_length_le (by omega)] at hall hnd
   rw [ends_good (by omega) hall hnd]
   exact ⟨rfl, aB.fr⟩

end Go.Proofs.Ytibkndhgeeoidaa
