/- Contracts of functions of the program, each proved by a walk through its code; conditions stand in the statements. -/
import Derived.Test.YtmahghppojbeoaaProg
import Derived.Test.YtmahghppojbeoaaTwUnr
namespace Go.Proofs.Ytmahghppojbeoaa
set_option linter.unusedSimpArgs false
set_option linter.unusedVariables false
set_option linter.unusedSectionVars false
open Go Go.RowKit Go.Tw
set_option linter.unusedVariables false
set_option maxRecDepth 20000
def isU32 (x : Int) : Prop := 0 ≤ x ∧ x ≤ 4294967295
def isI64 (x : Int) : Prop := -9223372036854775808 ≤ x ∧ x ≤ 9223372036854775807
theorem keyI : KeyL Try.prog 3 (fun n : Int => .int .i64 n) := KeyL.int rfl
def ekI (n : Int) : Value := .int .i64 n
theorem keyI' : KeyL Try.prog 3 ekI := keyI
def dipOk (h v : Int) : Bool := decide (0 ≤ h ∧ h < 8 ∧ 0 ≤ v ∧ v < 16)
def isHome (a : Int) : Bool := decide (167837696 ≤ a ∧ (a - 167837696) / 256 < 8 ∧ (a - 167837696) % 256 < 16)
def isVip (a : Int) : Bool := decide (1 ≤ a / 16777216 ∧ a / 16777216 ≤ 223 ∧ a / 16777216 ≠ 10 ∧ a / 16777216 ≠ 127)
theorem IsVip_ct (a : Int) (w : World) (h0 : 0 ≤ a) (h1 : a ≤ 4294967295) : Calls Try.prog 39 #[.int .u32 a] w fun e w' => e = .returned (.bool (isVip a)) ∧ Fr w w' [] := by
 refine enterD (n := 20) Try.func39 rfl rfl (Nat.le_of_ble_eq_true rfl) ?_
 intro Q0 hN hret hret'
 have hC := Cx.start w
 refine WCs (fun K1 hK2 => ?_)
 refine WCg (WLq 1 [(2, .bool false)] (WLd rfl (QXn (hK2 _ _ ?_))))
 refine WCs (fun K3 hK4 => ?_)
 refine WCg (WLq 2 [(5, .int .u32 ((a : Int).fdiv (2 ^ 24))), (4, .int .u32 a)] ?_)
 refine WLt (show (.int .u32 ((a : Int).fdiv (2 ^ 24)) : Value) = .int .u32 ((a : Int) / 16777216) from by rw [Int.fdiv_eq_ediv_of_nonneg (a : Int) (by decide)]; rfl) ?_
 refine WLq 1 [(3, .int .u32 ((a : Int) / 16777216))] (WLd rfl (QXn (hK4 _ _ ?_)))
 refine WCs (fun K5 hK6 => ?_)
 refine WCg (WLq 3 [(8, .bool (decide (((a : Int) / 16777216) ≥ 1))), (7, .bool (decide (((a : Int) / 16777216) ≥ 1))), (6, .int .u32 ((a : Int) / 16777216))] ?_)
 refine WLa 8 (decide (((a : Int) / 16777216) ≥ 1)) rfl (fun t7b => ?_) (fun t7b => ?_)
 ·
  have t7 : (1 : Int) ≤ ((a : Int) / 16777216) := by have q_ := of_decide_eq_true t7b; omega
  refine WLq 4 [(12, .bool (decide (((a : Int) / 16777216) ≤ 223))), (11, .bool (decide (((a : Int) / 16777216) ≤ 223))), (10, .bool (decide (((a : Int) / 16777216) ≤ 223))), (9, .int .u32 ((a : Int) / 16777216))] ?_
  refine WLa 12 (decide (((a : Int) / 16777216) ≤ 223)) rfl (fun t8b => ?_) (fun t8b => ?_)
  ·
   have t8 : ((a : Int) / 16777216) ≤ 223 := by have q_ := of_decide_eq_true t8b; omega
   refine WLq 4 [(16, .bool (((a : Int) / 16777216) != 10)), (15, .bool (((a : Int) / 16777216) != 10)), (14, .bool (((a : Int) / 16777216) != 10)), (13, .int .u32 ((a : Int) / 16777216))] ?_
   refine WLa 16 (((a : Int) / 16777216) != 10) rfl (fun t9b => ?_) (fun t9b => ?_)
   ·
    have t9 : ((a : Int) / 16777216) ≠ 10 := by simpa using t9b
    refine WLq 4 [(2, .bool (((a : Int) / 16777216) != 127)), (19, .bool (((a : Int) / 16777216) != 127)), (18, .bool (((a : Int) / 16777216) != 127)), (17, .int .u32 ((a : Int) / 16777216))] (WLd rfl (QXn (hK6 _ _ ?_)))
    refine WC.ret ?_
    refine (hret _ _ _ rfl ?_).1
    clear hN hret hret' hK6 hK4 hK2
    exact ⟨by simp [shut, isVip]; grind, hC.fr⟩
   ·
    have t9 : ((a : Int) / 16777216) = 10 := by simpa using t9b
    refine WLq 4 [(2, .bool false), (19, .bool false), (18, undef), (17, undef)] (WLd rfl (QXn (hK6 _ _ ?_)))
    refine WC.ret ?_
    refine (hret _ _ _ rfl ?_).1
    clear hN hret hret' hK6 hK4 hK2
    exact ⟨by simp [shut, isVip]; grind, hC.fr⟩
  ·
   have t8 : (223 : Int) < ((a : Int) / 16777216) := by have q_ := of_decide_eq_false t8b; omega
   refine WLq 8 [(2, .bool false), (19, .bool false), (18, undef), (17, undef), (16, .bool false), (15, .bool false), (14, undef), (13, undef)] (WLd rfl (QXn (hK6 _ _ ?_)))
   refine WC.ret ?_
   refine (hret _ _ _ rfl ?_).1
   clear hN hret hret' hK6 hK4 hK2
   exact ⟨by simp [shut, isVip]; grind, hC.fr⟩
 ·
  have t7 : ((a : Int) / 16777216) < 1 := by have q_ := of_decide_eq_false t7b; omega
  refine WLq 12 [(2, .bool false), (19, .bool false), (18, undef), (17, undef), (16, .bool false), (15, .bool false), (14, undef), (13, undef), (12, .bool false), (11, .bool false), (10, undef), (9, undef)] (WLd rfl (QXn (hK6 _ _ ?_)))
  refine WC.ret ?_
  refine (hret _ _ _ rfl ?_).1
  clear hN hret hret' hK6 hK4 hK2
  exact ⟨by simp [shut, isVip]; grind, hC.fr⟩

theorem err_eql (X : Operand) (c : Int) (ok : Bool) (h : decide (c = 0) = ok) (w : World) : Sem.run Try.prog (do eqGuard .eql 26 X (.const .nilIface) (errV 30 c) .nilIface; binOp .eql 26 (errV 30 c) .nilIface) w = .ok (.bool (ok)) w := by
  subst h
  unfold errV
  by_cases hc : c = 0
  · simp only [hc, if_true, decide_true]; cases X <;> kernel_rfl
  · simp only [hc, if_false, decide_false]; cases X <;> kernel_rfl
def nodeOk (k p : Int) : Bool := if k = 0 then decide (p = 0) else if k = 16 ∨ k = 32 ∨ k = 48 then decide (0 ≤ p ∧ p < 8) else false
theorem kinds_el {k : Nat} {e : Int} (h : [(0 : Int), 16, 32, 48][k]? = some e) : (k = 0 ∧ e = 0) ∨ (k = 1 ∧ e = 16) ∨ (k = 2 ∧ e = 32) ∨ (k = 3 ∧ e = 48) := by
  match k, h with
  | 0, h => exact .inl ⟨rfl, by simpa using h.symm⟩
  | 1, h => exact .inr (.inl ⟨rfl, by simpa using h.symm⟩)
  | 2, h => exact .inr (.inr (.inl ⟨rfl, by simpa using h.symm⟩))
  | 3, h => exact .inr (.inr (.inr ⟨rfl, by simpa using h.symm⟩))
  | _ + 4, h => simp at h
def kindK (n : Int) : Int := if 16 ≤ n ∧ n ≤ 23 then 16 else if 32 ≤ n ∧ n ≤ 39 then 32 else if 48 ≤ n ∧ n ≤ 55 then 48 else 0
def kindB (n : Int) : Bool := decide (n = 0 ∨ 16 ≤ n ∧ n ≤ 23 ∨ 32 ≤ n ∧ n ≤ 39 ∨ 48 ≤ n ∧ n ≤ 55)
def kindP (n : Int) : Int := if kindB n then n - kindK n else 0
theorem kind_yes {n e : Int} (he : e = 0 ∧ n = 0 ∨ (e = 16 ∨ e = 32 ∨ e = 48) ∧ e ≤ n ∧ n < e + 8) : kindK n = e ∧ kindB n = true ∧ kindP n = n - e := by
  have h2 : kindB n = true := by unfold kindB; apply decide_eq_true; omega
  have h1 : kindK n = e := by unfold kindK; (repeat' split) <;> omega
  exact ⟨h1, h2, by unfold kindP; rw [if_pos h2, h1]⟩
theorem kind_no {n : Int} (h : kindB n = false) : kindP n = 0 ∧ kindK n = 0 := by
  have h2 := of_decide_eq_false h
  refine ⟨by unfold kindP; rw [h]; rfl, ?_⟩
  unfold kindK; (repeat' split) <;> omega
theorem Node_ct (k p : Int) (w : World) (hk : k = 0 ∨ k = 16 ∨ k = 32 ∨ k = 48) : Calls Try.prog 64 #[.int .i64 k, .int .i64 p] w fun e w' => e = .returned (.tuple #[.int .i64 (if nodeOk k p then k + p else 0), errV 30 (if nodeOk k p then 0 else 12)]) ∧ Fr w w' [] := by
 refine enterD (n := 25) Try.func64 rfl rfl (Nat.le_of_ble_eq_true rfl) ?_
 intro Q0 hN hret hret'
 have hC := Cx.start w
 refine WCs (fun K1 hK2 => ?_)
 refine WCg (WLq 2 [(5, .nilIface), (4, .int .i64 0)] (WLd rfl (QXn (hK2 _ _ ?_))))
 refine WCs (fun K3 hK4 => ?_)
 refine WCs (fun K5 hK6 => ?_)
 refine WCg (WLq 1 [(6, .int .i64 k)] (WLd rfl (QXn (hK6 _ _ ?_))))
 refine WC.block ?_
 refine WCs (fun K7 hK8 => ?_)
 refine WCg (WLq 2 [(7, .bool (k == 0)), (8, .bool (k == 0))] (WLd rfl (QXn (hK8 _ _ ?_))))
 refine WCa 7 (k == 0) rfl (fun t9b => ?_) (fun t9b => ?_)
 ·
  have t9 : k = 0 := by simpa using t9b
  refine WCt rfl ?_
  refine WCs (fun aP ag => ?_)
  refine WCg (WLq 2 [(10, .bool (p == 0)), (9, .int .i64 p)] (WLd rfl (QXn (ag _ _ ?_))))
  refine WCa 10 (p == 0) rfl (fun ah => ?_) (fun ah => ?_)
  ·
   have aF : p = 0 := by simpa using ah
   refine WCt rfl ?_
   refine WCs (fun aQ ar => ?_)
   refine WCg (WLq 2 [(5, .nilIface), (4, .int .i64 0)] (WLd rfl (QXn (ar _ _ ?_))))
   refine WC.ret ?_
   refine QXk ?_
   refine QXr ?_
   refine (hret _ _ _ rfl ?_).1
   clear hN hret hret' ar ag hK8 hK6 hK4 hK2
   have hok_ : nodeOk k p = true := by unfold nodeOk; first | (rw [if_pos (by omega)]; simp; omega) | (rw [if_neg (by omega), if_pos (by omega)]; simp; omega)
   rw [hok_]
   exact ⟨by rw [show k + p = (0 : Int) from by omega]; rfl, hC.fr⟩
  ·
   have aF : ¬ (p = 0) := by simpa using ah
   refine WCf rfl (WC.skip ?_)
   refine QXb ?_
   refine QXn (hK4 _ _ ?_)
   refine WCs (fun aR au => ?_)
   refine WCg (WLq 3 [(5, .iface 30 (.int .i64 12)), (4, .int .i64 0), (24, .iface 30 (.int .i64 12))] (WLd rfl (QXn (au _ _ ?_))))
   refine WC.ret ?_
   refine (hret _ _ _ rfl ?_).1
   clear hN hret hret' au ag hK8 hK6 hK4 hK2
   have hok_ : nodeOk k p = false := by unfold nodeOk; first | (rw [if_pos (by omega)]; simp; omega) | (rw [if_neg (by omega), if_pos (by omega)]; simp; omega)
   rw [hok_]
   exact ⟨rfl, hC.fr⟩
 ·
  have t9 : ¬ (k = 0) := by simpa using t9b
  refine WCf rfl ?_
  refine WCs (fun aS aa => ?_)
  refine WCs (fun aT ab => ?_)
  refine WCg (WLq 2 [(11, .bool (k == 16)), (12, .bool (k == 16))] (WLd rfl (QXn (ab _ _ ?_))))
  refine WCa 11 (k == 16) rfl (fun ai => ?_) (fun ai => ?_)
  ·
   have aG : k = 16 := by simpa using ai
   refine WCt rfl ?_
   refine WC.skip ?_
   refine QXn (aa _ _ ?_)
   refine WCt rfl ?_
   refine WCs (fun aU ad => ?_)
   refine WCg (WLq 3 [(17, .bool (decide (p ≥ 0))), (16, .bool (decide (p ≥ 0))), (15, .int .i64 p)] ?_)
   refine WLa 17 (decide (p ≥ 0)) rfl (fun aj => ?_) (fun aj => ?_)
   ·
    have aH : (0 : Int) ≤ p := by have q_ := of_decide_eq_true aj; omega
    refine WLq 3 [(20, .bool (decide (p < 8))), (19, .bool (decide (p < 8))), (18, .int .i64 p)] (WLd rfl (QXn (ad _ _ ?_)))
    refine WCa 20 (decide (p < 8)) rfl (fun ak => ?_) (fun ak => ?_)
    ·
     have aI : p < 8 := by have q_ := of_decide_eq_true ak; omega
     refine WCt rfl ?_
     refine WCs (fun aV av => ?_)
     refine WCg (WLq 3 [(23, .int .i64 (IntKind.i64.wrap (k + p))), (22, .int .i64 p), (21, .int .i64 k)] ?_)
     refine WLt (show (.int .i64 (IntKind.i64.wrap (k + p)) : Value) = .int .i64 (k + p) from by rw [wrap_in_i64 (k + p) (by omega) (by omega)]) ?_
     refine WLq 2 [(5, .nilIface), (4, .int .i64 (k + p))] (WLd rfl (QXn (av _ _ ?_)))
     refine WC.ret ?_
     refine QXk ?_
     refine QXr ?_
     refine (hret _ _ _ rfl ?_).1
     clear hN hret hret' av ad ab aa hK8 hK6 hK4 hK2
     have hok_ : nodeOk k p = true := by unfold nodeOk; first | (rw [if_pos (by omega)]; simp; omega) | (rw [if_neg (by omega), if_pos (by omega)]; simp; omega)
     rw [hok_]
     exact ⟨rfl, hC.fr⟩
    ·
     have aI : (8 : Int) ≤ p := by have q_ := of_decide_eq_false ak; omega
     refine WCf rfl (WC.skip ?_)
     refine QXb ?_
     refine QXn (hK4 _ _ ?_)
     refine WCs (fun aW aw => ?_)
     refine WCg (WLq 3 [(5, .iface 30 (.int .i64 12)), (4, .int .i64 0), (24, .iface 30 (.int .i64 12))] (WLd rfl (QXn (aw _ _ ?_))))
     refine WC.ret ?_
     refine (hret _ _ _ rfl ?_).1
     clear hN hret hret' aw ad ab aa hK8 hK6 hK4 hK2
     have hok_ : nodeOk k p = false := by unfold nodeOk; first | (rw [if_pos (by omega)]; simp; omega) | (rw [if_neg (by omega), if_pos (by omega)]; simp; omega)
     rw [hok_]
     exact ⟨rfl, hC.fr⟩
   ·
    have aH : p < 0 := by have q_ := of_decide_eq_false aj; omega
    refine WLq 3 [(20, .bool false), (19, undef), (18, undef)] (WLd rfl (QXn (ad _ _ ?_)))
    refine WCf rfl (WC.skip ?_)
    refine QXb ?_
    refine QXn (hK4 _ _ ?_)
    refine WCs (fun aX ax => ?_)
    refine WCg (WLq 3 [(5, .iface 30 (.int .i64 12)), (4, .int .i64 0), (24, .iface 30 (.int .i64 12))] (WLd rfl (QXn (ax _ _ ?_))))
    refine WC.ret ?_
    refine (hret _ _ _ rfl ?_).1
    clear hN hret hret' ax ad ab aa hK8 hK6 hK4 hK2
    have hok_ : nodeOk k p = false := by unfold nodeOk; first | (rw [if_pos (by omega)]; simp; omega) | (rw [if_neg (by omega), if_pos (by omega)]; simp; omega)
    rw [hok_]
    exact ⟨rfl, hC.fr⟩
  ·
   have aG : ¬ (k = 16) := by simpa using ai
   refine WCf rfl ?_
   refine WCs (fun aY ac => ?_)
   refine WCg (WLq 2 [(11, .bool (k == 32)), (13, .bool (k == 32))] (WLd rfl (QXn (ac _ _ ?_))))
   refine WCa 11 (k == 32) rfl (fun al => ?_) (fun al => ?_)
   ·
    have aJ : k = 32 := by simpa using al
    refine WCt rfl ?_
    refine WC.skip ?_
    refine QXn (aa _ _ ?_)
    refine WCt rfl ?_
    refine WCs (fun aZ ae => ?_)
    refine WCg (WLq 3 [(17, .bool (decide (p ≥ 0))), (16, .bool (decide (p ≥ 0))), (15, .int .i64 p)] ?_)
    refine WLa 17 (decide (p ≥ 0)) rfl (fun am => ?_) (fun am => ?_)
    ·
     have aK : (0 : Int) ≤ p := by have q_ := of_decide_eq_true am; omega
     refine WLq 3 [(20, .bool (decide (p < 8))), (19, .bool (decide (p < 8))), (18, .int .i64 p)] (WLd rfl (QXn (ae _ _ ?_)))
     refine WCa 20 (decide (p < 8)) rfl (fun an => ?_) (fun an => ?_)
     ·
      have aL : p < 8 := by have q_ := of_decide_eq_true an; omega
      refine WCt rfl ?_
      refine WCs (fun a0 ay => ?_)
      refine WCg (WLq 3 [(23, .int .i64 (IntKind.i64.wrap (k + p))), (22, .int .i64 p), (21, .int .i64 k)] ?_)
      refine WLt (show (.int .i64 (IntKind.i64.wrap (k + p)) : Value) = .int .i64 (k + p) from by rw [wrap_in_i64 (k + p) (by omega) (by omega)]) ?_
      refine WLq 2 [(5, .nilIface), (4, .int .i64 (k + p))] (WLd rfl (QXn (ay _ _ ?_)))
      refine WC.ret ?_
      refine QXk ?_
      refine QXr ?_
      refine (hret _ _ _ rfl ?_).1
      clear hN hret hret' ay ae ac ab aa hK8 hK6 hK4 hK2
      have hok_ : nodeOk k p = true := by unfold nodeOk; first | (rw [if_pos (by omega)]; simp; omega) | (rw [if_neg (by omega), if_pos (by omega)]; simp; omega)
      rw [hok_]
      exact ⟨rfl, hC.fr⟩
     ·
      have aL : (8 : Int) ≤ p := by have q_ := of_decide_eq_false an; omega
      refine WCf rfl (WC.skip ?_)
      refine QXb ?_
      refine QXn (hK4 _ _ ?_)
      refine WCs (fun a1 az => ?_)
      refine WCg (WLq 3 [(5, .iface 30 (.int .i64 12)), (4, .int .i64 0), (24, .iface 30 (.int .i64 12))] (WLd rfl (QXn (az _ _ ?_))))
      refine WC.ret ?_
      refine (hret _ _ _ rfl ?_).1
      clear hN hret hret' az ae ac ab aa hK8 hK6 hK4 hK2
      have hok_ : nodeOk k p = false := by unfold nodeOk; first | (rw [if_pos (by omega)]; simp; omega) | (rw [if_neg (by omega), if_pos (by omega)]; simp; omega)
      rw [hok_]
      exact ⟨rfl, hC.fr⟩
    ·
     have aK : p < 0 := by have q_ := of_decide_eq_false am; omega
     refine WLq 3 [(20, .bool false), (19, undef), (18, undef)] (WLd rfl (QXn (ae _ _ ?_)))
     refine WCf rfl (WC.skip ?_)
     refine QXb ?_
     refine QXn (hK4 _ _ ?_)
     refine WCs (fun a2 aA => ?_)
     refine WCg (WLq 3 [(5, .iface 30 (.int .i64 12)), (4, .int .i64 0), (24, .iface 30 (.int .i64 12))] (WLd rfl (QXn (aA _ _ ?_))))
     refine WC.ret ?_
     refine (hret _ _ _ rfl ?_).1
     clear hN hret hret' aA ae ac ab aa hK8 hK6 hK4 hK2
     have hok_ : nodeOk k p = false := by unfold nodeOk; first | (rw [if_pos (by omega)]; simp; omega) | (rw [if_neg (by omega), if_pos (by omega)]; simp; omega)
     rw [hok_]
     exact ⟨rfl, hC.fr⟩
   ·
    have aJ : ¬ (k = 32) := by simpa using al
    refine WCf rfl ?_
    refine WCg (WLq 2 [(11, .bool (k == 48)), (14, .bool (k == 48))] (WLd rfl (QXn (aa _ _ ?_))))
    refine WCa 11 (k == 48) rfl (fun ao => ?_) (fun ao => ?_)
    ·
     have aM : k = 48 := by simpa using ao
     refine WCt rfl ?_
     refine WCs (fun a3 af => ?_)
     refine WCg (WLq 3 [(17, .bool (decide (p ≥ 0))), (16, .bool (decide (p ≥ 0))), (15, .int .i64 p)] ?_)
     refine WLa 17 (decide (p ≥ 0)) rfl (fun ap => ?_) (fun ap => ?_)
     ·
      have aN : (0 : Int) ≤ p := by have q_ := of_decide_eq_true ap; omega
      refine WLq 3 [(20, .bool (decide (p < 8))), (19, .bool (decide (p < 8))), (18, .int .i64 p)] (WLd rfl (QXn (af _ _ ?_)))
      refine WCa 20 (decide (p < 8)) rfl (fun aq => ?_) (fun aq => ?_)
      ·
       have aO : p < 8 := by have q_ := of_decide_eq_true aq; omega
       refine WCt rfl ?_
       refine WCs (fun a4 aB => ?_)
       refine WCg (WLq 3 [(23, .int .i64 (IntKind.i64.wrap (k + p))), (22, .int .i64 p), (21, .int .i64 k)] ?_)
       refine WLt (show (.int .i64 (IntKind.i64.wrap (k + p)) : Value) = .int .i64 (k + p) from by rw [wrap_in_i64 (k + p) (by omega) (by omega)]) ?_
       refine WLq 2 [(5, .nilIface), (4, .int .i64 (k + p))] (WLd rfl (QXn (aB _ _ ?_)))
       refine WC.ret ?_
       refine QXk ?_
       refine QXr ?_
       refine (hret _ _ _ rfl ?_).1
       clear hN hret hret' aB af ac ab aa hK8 hK6 hK4 hK2
       have hok_ : nodeOk k p = true := by unfold nodeOk; first | (rw [if_pos (by omega)]; simp; omega) | (rw [if_neg (by omega), if_pos (by omega)]; simp; omega)
       rw [hok_]
       exact ⟨rfl, hC.fr⟩
      ·
       have aO : (8 : Int) ≤ p := by have q_ := of_decide_eq_false aq; omega
       refine WCf rfl (WC.skip ?_)
       refine QXb ?_
       refine QXn (hK4 _ _ ?_)
       refine WCs (fun a5 aC => ?_)
       refine WCg (WLq 3 [(5, .iface 30 (.int .i64 12)), (4, .int .i64 0), (24, .iface 30 (.int .i64 12))] (WLd rfl (QXn (aC _ _ ?_))))
       refine WC.ret ?_
       refine (hret _ _ _ rfl ?_).1
       clear hN hret hret' aC af ac ab aa hK8 hK6 hK4 hK2
       have hok_ : nodeOk k p = false := by unfold nodeOk; first | (rw [if_pos (by omega)]; simp; omega) | (rw [if_neg (by omega), if_pos (by omega)]; simp; omega)
       rw [hok_]
       exact ⟨rfl, hC.fr⟩
     ·
      have aN : p < 0 := by have q_ := of_decide_eq_false ap; omega
      refine WLq 3 [(20, .bool false), (19, undef), (18, undef)] (WLd rfl (QXn (af _ _ ?_)))
      refine WCf rfl (WC.skip ?_)
      refine QXb ?_
      refine QXn (hK4 _ _ ?_)
      refine WCs (fun a6 aD => ?_)
      refine WCg (WLq 3 [(5, .iface 30 (.int .i64 12)), (4, .int .i64 0), (24, .iface 30 (.int .i64 12))] (WLd rfl (QXn (aD _ _ ?_))))
      refine WC.ret ?_
      refine (hret _ _ _ rfl ?_).1
      clear hN hret hret' aD af ac ab aa hK8 hK6 hK4 hK2
      have hok_ : nodeOk k p = false := by unfold nodeOk; first | (rw [if_pos (by omega)]; simp; omega) | (rw [if_neg (by omega), if_pos (by omega)]; simp; omega)
      rw [hok_]
      exact ⟨rfl, hC.fr⟩
    ·
     have aM : ¬ (k = 48) := by simpa using ao
     refine WCf rfl (WC.skip ?_)
     refine QXb ?_
     refine QXn (hK4 _ _ ?_)
     refine WCs (fun a7 aE => ?_)
     refine WCg (WLq 3 [(5, .iface 30 (.int .i64 12)), (4, .int .i64 0), (24, .iface 30 (.int .i64 12))] (WLd rfl (QXn (aE _ _ ?_))))
     refine WC.ret ?_
     refine (hret _ _ _ rfl ?_).1
     clear hN hret hret' aE ac ab aa hK8 hK6 hK4 hK2
     have hok_ : nodeOk k p = false := by unfold nodeOk; first | (rw [if_pos (by omega)]; simp; omega) | (rw [if_neg (by omega), if_pos (by omega)]; simp; omega)
     rw [hok_]
     exact ⟨rfl, hC.fr⟩

theorem Kind_ct (node : Int) (w : World) (hw : isI64 node) : Calls Try.prog 53 #[.int .i64 node] w fun e w' => e = .returned (.tuple #[.int .i64 (kindK node), .int .i64 (kindP node), .bool (kindB node)]) ∧ Fr w w' [] := by
 refine enterD (n := 37) Try.func53 rfl rfl (Nat.le_of_ble_eq_true rfl) ?_
 intro Q0 hN hret hret'
 obtain ⟨hw0_, hw1_⟩ := hw
 have hC := Cx.start w
 refine WCs (fun K1 hK2 => ?_)
 refine WCg (WLq 3 [(4, .bool false), (3, .int .i64 0), (2, .int .i64 0)] (WLd rfl (QXn (hK2 _ _ ?_))))
 refine WCs (fun K3 hK4 => ?_)
 refine WCs (fun K5 hK6 => ?_)
 refine WCg (WLq 2 [(10, .int .i64 0), (9, .agg #[.int .i64 0, .int .i64 16, .int .i64 32, .int .i64 48])] (WLd rfl (QXn (hK6 _ _ ?_))))
 refine WC.block ?_
 refine WC.loop (fun m_ E_ w_ => ∃ (k : Nat), m_ = 4 - k ∧ E_ = [(0, .int .i64 node), (9, .agg ([(0 : Int), 16, 32, 48].flatMap (Go.Tw.encI .i64)).toArray), (10, .int .i64 (k : Int))] ∧ Cx w [] w_ [] [] ∧ (k ≤ 4 ∧ (1 ≤ k → node ≠ 0) ∧ (2 ≤ k → ¬ (16 ≤ node ∧ node < 24)) ∧ (3 ≤ k → ¬ (32 ≤ node ∧ node < 40)) ∧ (4 ≤ k → ¬ (48 ≤ node ∧ node < 56)))) ⟨_, _, ⟨0, rfl, rfl, hC, by omega, by omega, by omega, by omega, by omega⟩, sub_of ⟨rfl, rfl, rfl, trivial⟩⟩ (fun m10 E_ az K7 hK8 hI9 => ?_)
 obtain ⟨k, rfl, rfl, ab, hk, hk1, hk2, hk3, hk4⟩ := hI9
 have hl4_ : ([(0 : Int), 16, 32, 48]).length = 4 := rfl
 refine WCs (fun aD ad => ?_)
 refine WCg (WLq 1 [(11, .bool (decide ((k : Int) < 4)))] (WLd rfl (QXn (ad _ _ ?_))))
 refine WCs (fun aE ae => ?_)
 refine WCa 11 (decide ((k : Int) < 4)) rfl (fun af => ?_) (fun af => ?_)
 ·
  have aA : (k : Int) < 4 := by have q_ := of_decide_eq_true af; omega
  refine WCt rfl ?_
  refine WC.skip ?_
  refine QXn (ae _ _ ?_)
  refine WCs (fun aF ac => ?_)
  refine WC.block ?_
  refine WCs (fun aG ak => ?_)
  refine WCg ?_
  obtain ⟨aa, al⟩ := get_some (xs := [(0 : Int), 16, 32, 48]) (i := k) (by omega)
  refine WL.indexA (enc := (Go.Tw.encI .i64)) [(0 : Int), 16, 32, 48] 111 4 3 k .i64 (k : Int) aa (.int .i64 aa) 12 (by kernel_rfl) (by kernel_rfl) (Go.Tw.encI_len _) (by kernel_rfl) (by omega) (by omega) al rfl ?_
  have hke_ := kinds_el al
  refine WLq 1 [(6, .int .i64 aa)] (WLd rfl (QXn (ak _ _ ?_)))
  refine WCs (fun aH am => ?_)
  refine WCs (fun aI ag => ?_)
  refine WCg (WLq 4 [(16, .bool (decide (node < aa))), (15, .bool (decide (node < aa))), (14, .int .i64 aa), (13, .int .i64 node)] ?_)
  refine WLa 16 (decide (node < aa)) rfl (fun ah => ?_) (fun ah => ?_)
  ·
   have aB : node < aa := by have q_ := of_decide_eq_true ah; omega
   refine WLq 5 [(21, .bool true), (20, undef), (19, undef), (18, undef), (17, undef)] (WLd rfl (QXn (ag _ _ ?_)))
   refine WCt rfl ?_
   refine WC.exit ?_
   refine QXe ?_
   refine QX.block_hit ?_
   refine QXn (ac _ _ ?_)
   refine WCg (WLq 1 [(36, .int .i64 (IntKind.i64.wrap ((k : Int) + 1)))] ?_)
   refine WLt (show (.int .i64 (IntKind.i64.wrap ((k : Int) + 1)) : Value) = .int .i64 ((k : Int) + 1) from by rw [wrap_in_i64 ((k : Int) + 1) (by omega) (by omega)]) ?_
   refine WLq 1 [(10, .int .i64 ((k : Int) + 1))] ?_
   refine WLd rfl ?_
   refine QXn ?_
   have au := ab.pick [] [] rfl rfl
   refine fun a_ ha_ => hK8 _ _ _ ?_ ⟨k + 1, rfl, rfl, au, by (try (split at hnk_ <;> (try split at hnk_) <;> simp at hnk_)) <;> omega, by (try (split at hnk_ <;> (try split at hnk_) <;> simp at hnk_)) <;> omega, by (try (split at hnk_ <;> (try split at hnk_) <;> simp at hnk_)) <;> omega, by (try (split at hnk_ <;> (try split at hnk_) <;> simp at hnk_)) <;> omega, by (try (split at hnk_ <;> (try split at hnk_) <;> simp at hnk_)) <;> omega⟩ a_ (ha_.weaken (sub_of ⟨rfl, rfl, rfl, trivial⟩))
   omega
  ·
   have aB : aa ≤ node := by have q_ := of_decide_eq_false ah; omega
   refine WLq 3 [(19, .int .i64 (IntKind.i64.wrap (aa + 8))), (18, .int .i64 aa), (17, .int .i64 node)] ?_
   refine WLt (show (.int .i64 (IntKind.i64.wrap (aa + 8)) : Value) = .int .i64 (aa + 8) from by rw [wrap_in_i64 (aa + 8) (by omega) (by omega)]) ?_
   refine WLq 2 [(21, .bool (decide (node ≥ (aa + 8)))), (20, .bool (decide (node ≥ (aa + 8))))] (WLd rfl (QXn (ag _ _ ?_)))
   refine WCa 21 (decide (node ≥ (aa + 8))) rfl (fun ai => ?_) (fun ai => ?_)
   ·
    have aC : (aa + 8) ≤ node := by have q_ := of_decide_eq_true ai; omega
    refine WCt rfl ?_
    refine WC.exit ?_
    refine QXe ?_
    refine QX.block_hit ?_
    refine QXn (ac _ _ ?_)
    refine WCg (WLq 1 [(36, .int .i64 (IntKind.i64.wrap ((k : Int) + 1)))] ?_)
    refine WLt (show (.int .i64 (IntKind.i64.wrap ((k : Int) + 1)) : Value) = .int .i64 ((k : Int) + 1) from by rw [wrap_in_i64 ((k : Int) + 1) (by omega) (by omega)]) ?_
    refine WLq 1 [(10, .int .i64 ((k : Int) + 1))] ?_
    refine WLd rfl ?_
    refine QXn ?_
    have av := ab.pick [] [] rfl rfl
    refine fun a_ ha_ => hK8 _ _ _ ?_ ⟨k + 1, rfl, rfl, av, by (try (split at hnk_ <;> (try split at hnk_) <;> simp at hnk_)) <;> omega, by (try (split at hnk_ <;> (try split at hnk_) <;> simp at hnk_)) <;> omega, by (try (split at hnk_ <;> (try split at hnk_) <;> simp at hnk_)) <;> omega, by (try (split at hnk_ <;> (try split at hnk_) <;> simp at hnk_)) <;> omega, by (try (split at hnk_ <;> (try split at hnk_) <;> simp at hnk_)) <;> omega⟩ a_ (ha_.weaken (sub_of ⟨rfl, rfl, rfl, trivial⟩))
    omega
   ·
    have aC : node < (aa + 8) := by have q_ := of_decide_eq_false ai; omega
    refine WCf rfl (WC.skip (QXn (am _ _ ?_)))
    refine WCs (fun aJ an => ?_)
    refine WCg (WLq 4 [(26, .int .i64 (IntKind.i64.wrap (node - aa))), (25, .int .i64 aa), (24, .int .i64 node), (23, .int .i64 aa)] ?_)
    refine WLt (show (.int .i64 (IntKind.i64.wrap (node - aa)) : Value) = .int .i64 (node - aa) from by rw [wrap_in_i64 (node - aa) (by omega) (by omega)]) ?_
    refine WLc rfl rfl rfl rfl rfl (by kernel_rfl) (Node_ct aa (node - aa) az (by omega)) ?_
    rintro _ aK ⟨rfl, aw⟩
    refine ⟨_, rfl, ?_⟩
    have ao := ab.call aw
    refine WLq 5 [(8, errV 30 (if nodeOk aa (node - aa) then 0 else 12)), (7, .int .i64 (if nodeOk aa (node - aa) then aa + (node - aa) else 0)), (29, errV 30 (if nodeOk aa (node - aa) then 0 else 12)), (28, .int .i64 (if nodeOk aa (node - aa) then aa + (node - aa) else 0)), (22, .tuple #[.int .i64 (if nodeOk aa (node - aa) then aa + (node - aa) else 0), errV 30 (if nodeOk aa (node - aa) then 0 else 12)])] (WLd rfl (QXn (an _ _ ?_)))
    refine WCs (fun aL ap => ?_)
    refine WCg (WLq 1 [(30, errV 30 (if nodeOk aa (node - aa) then 0 else 12))] ?_)
    have ax : ∀ w_, Sem.run Try.prog (do eqGuard .eql 26 (Operand.tmp 30) (Operand.const (.nilIface)) (errV 30 (if nodeOk aa (node - aa) then 0 else 12)) (.nilIface); binOp .eql 26 (errV 30 (if nodeOk aa (node - aa) then 0 else 12)) (.nilIface)) w_ = .ok (.bool (nodeOk aa (node - aa))) w_ := fun w_ => (err_eql _ (if nodeOk aa (node - aa) then 0 else 12) (nodeOk aa (node - aa)) (by cases nodeOk aa (node - aa) <;> rfl) _)
    refine WL.sem (do eqGuard .eql 26 (Operand.tmp 30) (Operand.const (.nilIface)) (errV 30 (if nodeOk aa (node - aa) then 0 else 12)) (.nilIface); binOp .eql 26 (errV 30 (if nodeOk aa (node - aa) then 0 else 12)) (.nilIface)) 31 (.bool (nodeOk aa (node - aa))) (by kernel_rfl) (ax _) ?_
    refine WLd rfl (QXn (ap _ _ ?_))
    refine WCa 31 (nodeOk aa (node - aa)) rfl (fun aj => ?_) (fun aj => ?_)
    ·
     refine WCt rfl ?_
     refine WCs (fun aM aq => ?_)
     refine WCg (WLq 4 [(35, .int .i64 (IntKind.i64.wrap (node - aa))), (34, .int .i64 aa), (33, .int .i64 node), (32, .int .i64 aa)] ?_)
     refine WLt (show (.int .i64 (IntKind.i64.wrap (node - aa)) : Value) = .int .i64 (node - aa) from by rw [wrap_in_i64 (node - aa) (by omega) (by omega)]) ?_
     refine WLq 3 [(4, .bool true), (3, .int .i64 (node - aa)), (2, .int .i64 aa)] (WLd rfl (QXn (aq _ _ ?_)))
     refine WC.ret ?_
     refine QXk ?_
     refine QXr ?_
     refine QXr ?_
     refine QXk ?_
     refine QXr ?_
     refine (hret _ _ _ rfl ?_).1
     clear hN hret hret' aq ap an ag am ak ac ae ad hK6 hK4 hK2
     have hnk_ := aj
     obtain ⟨q1_, q2_, q3_⟩ := kind_yes (n := node) (e := aa) (by unfold nodeOk at hnk_; split at hnk_ <;> (try split at hnk_) <;> simp at hnk_ <;> omega)
     exact ⟨by rw [q1_, q2_, q3_]; rfl, ao.fr⟩
    ·
     refine WCf rfl (WC.skip ?_)
     refine QXb ?_
     refine QXn (ac _ _ ?_)
     refine WCg (WLq 1 [(36, .int .i64 (IntKind.i64.wrap ((k : Int) + 1)))] ?_)
     refine WLt (show (.int .i64 (IntKind.i64.wrap ((k : Int) + 1)) : Value) = .int .i64 ((k : Int) + 1) from by rw [wrap_in_i64 ((k : Int) + 1) (by omega) (by omega)]) ?_
     refine WLq 1 [(10, .int .i64 ((k : Int) + 1))] ?_
     refine WLd rfl ?_
     refine QXn ?_
     have ay := ao.pick [] [] rfl rfl
     have hnk_ := aj
     unfold nodeOk at hnk_
     refine fun a_ ha_ => hK8 _ _ _ ?_ ⟨k + 1, rfl, rfl, ay, by (try (split at hnk_ <;> (try split at hnk_) <;> simp at hnk_)) <;> omega, by (try (split at hnk_ <;> (try split at hnk_) <;> simp at hnk_)) <;> omega, by (try (split at hnk_ <;> (try split at hnk_) <;> simp at hnk_)) <;> omega, by (try (split at hnk_ <;> (try split at hnk_) <;> simp at hnk_)) <;> omega, by (try (split at hnk_ <;> (try split at hnk_) <;> simp at hnk_)) <;> omega⟩ a_ (ha_.weaken (sub_of ⟨rfl, rfl, rfl, trivial⟩))
     omega
 ·
  have aA : (4 : Int) ≤ (k : Int) := by have q_ := of_decide_eq_false af; omega
  refine WCf rfl ?_
  refine WC.exit ?_
  refine QXe ?_
  refine QXe ?_
  refine QX.block_hit ?_
  refine QXn (hK4 _ _ ?_)
  refine WCs (fun aN ar => ?_)
  refine WCg (WLq 3 [(4, .bool false), (3, .int .i64 0), (2, .int .i64 0)] (WLd rfl (QXn (ar _ _ ?_))))
  refine WC.ret ?_
  refine (hret _ _ _ rfl ?_).1
  clear hN hret hret' ar ae ad hK6 hK4 hK2
  have hb_ : kindB node = false := by unfold kindB; apply decide_eq_false; omega
  obtain ⟨q1_, q2_⟩ := kind_no hb_
  exact ⟨by rw [hb_, q1_, q2_]; rfl, ab.fr⟩


/-! ### a listener -/
structure One where
  boot : Int
  heard : Int
  a : Option Addr
  c : Nat
  vs : List Int
def encO (o : One) : Value := .agg #[.int .i64 o.boot, .int .i64 o.heard, .slice o.a o.vs.length o.c]
def zO : One := ⟨0, 0, none, 0, []⟩
abbrev Lm := List (Int × One)
def muxB (n : Int) : Bool := decide (32 ≤ n ∧ n ≤ 39)
structure lok (L : Lm) : Prop where
  key : ∀ q ∈ L, muxB q.1 = true
  bt : ∀ q ∈ L, 0 ≤ q.2.boot ∧ q.2.boot ≤ 1099511627776
  hd : ∀ q ∈ L, 0 ≤ q.2.heard ∧ q.2.heard ≤ 1099511627776
  vs : ∀ q ∈ L, q.2.vs.length ≤ 39
structure lrows (w : World) (R : List Nat) (L : Lm) : Prop where
  rd : ∀ q ∈ L, Rd w 1 (Go.Tw.encI .u32) q.2.a q.2.vs
  inn : ∀ q ∈ L, ∀ b off, q.2.a = some ⟨b, off, none⟩ → b ∈ R
  lt : ∀ x ∈ R, x < w.heap.size
theorem lrows.fr {w w' : World} {R G : List Nat} {L : Lm} (h : lrows w R L) (hf : Fr w w' G) (hd : ∀ x ∈ R, x ∉ G) : lrows w' R L :=
  ⟨fun q hq => (h.rd q hq).frN hf fun b off e => hd b (h.inn q hq b off e), h.inn, fun x hx => Nat.lt_of_lt_of_le (h.lt x hx) hf.size⟩
def lsAt (w : World) (F : List Nat) (p : Nat) (L : Lm) : Prop :=
  ∃ (mb : Nat) (R : List Nat) (es : Array MapEntry) (cl : Nat), w.heap[p]? = some (.cells #[.map (some mb)] 89 (0, 0)) ∧ w.heap[mb]? = some (.map es cl) ∧ MapOk ekI encO es cl L ∧ lrows w R L ∧ lok L ∧ F = p :: mb :: R ∧ p ≠ mb ∧ p ∉ R ∧ mb ∉ R
theorem lsAt_lt {w : World} {F : List Nat} {p : Nat} {L : Lm} (h : lsAt w F p L) : ∀ x ∈ F, x < w.heap.size := by
  obtain ⟨mb, R, es, cl, h1, h2, h3, h4, h5, rfl, _⟩ := h
  intro x hx
  simp only [List.mem_cons] at hx
  rcases hx with rfl | rfl | hx
  · exact lt_of_heap h1
  · exact lt_of_heap h2
  · exact h4.lt x hx
theorem lsAt_fr {w w' : World} {F : List Nat} {p : Nat} {L : Lm} {G : List Nat} (h : lsAt w F p L) (hf : Fr w w' G) (hd : ∀ x ∈ F, x ∉ G) : lsAt w' F p L := by
  obtain ⟨mb, R, es, cl, h1, h2, h3, h4, h5, rfl, h6⟩ := h
  exact ⟨mb, R, es, cl, hf.has h1 (hd p (by simp)), hf.has h2 (hd mb (by simp)), h3, h4.fr hf (fun x hx => hd x (by simp [hx])), h5, rfl, h6⟩
theorem lsAt_ok {w : World} {F : List Nat} {p : Nat} {L : Lm} (h : lsAt w F p L) : lok L ∧ (L.map (·.1)).Nodup := by
  obtain ⟨mb, R, es, cl, h1, h2, h3, h4, h5, _⟩ := h; exact ⟨h5, h3.keys⟩
theorem lrows_put {w : World} {R R2 : List Nat} {L : Lm} {k : Int} {o : One} (h : lrows w R L) (hn : (L.map (·.1)).Nodup) (hr : Rd w 1 (Go.Tw.encI .u32) o.a o.vs) (hi : ∀ b off, o.a = some ⟨b, off, none⟩ → b ∈ R ++ R2) (hl : ∀ x ∈ R2, x < w.heap.size) : lrows w (R ++ R2) (putL L k o) := by
  refine ⟨fun q hq => ?_, fun q hq b off e => ?_, fun x hx => (List.mem_append.1 hx).elim (h.lt x) (hl x)⟩
  · rcases (al_mem_put hn).1 hq with rfl | ⟨h1, _⟩
    · exact hr
    · exact h.rd q h1
  · rcases (al_mem_put hn).1 hq with rfl | ⟨h1, _⟩
    · exact hi b off e
    · exact List.mem_append_left _ (h.inn q h1 b off e)
theorem lok_put {L : Lm} {k : Int} {o : One} (h : lok L) (hn : (L.map (·.1)).Nodup) (hk : muxB k = true) (h1 : 0 ≤ o.boot ∧ o.boot ≤ 1099511627776) (h2 : 0 ≤ o.heard ∧ o.heard ≤ 1099511627776) (h3 : o.vs.length ≤ 39) : lok (putL L k o) := by
  refine ⟨fun q hq => ?_, fun q hq => ?_, fun q hq => ?_, fun q hq => ?_⟩ <;> rcases (al_mem_put hn).1 hq with rfl | ⟨hq, _⟩
  · exact hk
  · exact h.key q hq
  · exact h1
  · exact h.bt q hq
  · exact h2
  · exact h.hd q hq
  · exact h3
  · exact h.vs q hq
theorem nodup_sub_len {α : Type} [BEq α] [LawfulBEq α] : ∀ {l m : List α}, l.Nodup → (∀ x ∈ l, x ∈ m) → l.length ≤ m.length
  | [], _, _, _ => Nat.zero_le _
  | a :: r, m, h, hs => by
    rw [List.nodup_cons] at h
    have h1 := nodup_sub_len (l := r) (m := m.erase a) h.2 (fun x hx => (List.mem_erase_of_ne (fun e => h.1 (by rw [← e]; exact hx))).2 (hs x (List.mem_cons_of_mem _ hx)))
    have h2 := List.length_erase_of_mem (hs a List.mem_cons_self)
    have h3 : 0 < m.length := List.length_pos_of_mem (hs a List.mem_cons_self)
    rw [List.length_cons]; omega
theorem lok_len {L : Lm} (h : lok L) (hn : (L.map (·.1)).Nodup) : L.length ≤ 8 := by
  have := nodup_sub_len (m := [32, 33, 34, 35, 36, 37, 38, 39]) hn (fun x hx => by
    obtain ⟨q, hq, rfl⟩ := List.mem_map.1 hx
    have := of_decide_eq_true (h.key q hq)
    simp only [List.mem_cons, List.not_mem_nil, or_false]; omega)
  rw [List.length_map] at this; exact this
theorem lok_nil : lok [] := ⟨by simp, by simp, by simp, by simp⟩
theorem lrows_nil (w : World) : lrows w [] [] := ⟨by simp, by simp, by simp⟩
def sesL (L : Lm) : List Int := (L.map (·.1)).mergeSort fun x y => decide (x ≤ y)
theorem sesL_perm (L : Lm) : (sesL L).Perm (L.map (·.1)) := List.mergeSort_perm _ _
theorem sesL_len (L : Lm) : (sesL L).length = L.length := by unfold sesL; rw [List.length_mergeSort, List.length_map]
/-! what comes rising -/
def vokT (N : List Int) (i : Nat) : Prop := ∀ k x, k < i → N[k]? = some x → (0 ≤ x ∧ x < 4294967296 ∧ isVip x = true) ∧ ∀ y, 0 < k → N[k - 1]? = some y → y < x
def vok (N : List Int) : Prop := vokT N N.length
def vok39 (N : List Int) : Prop := vok N ∧ N.length ≤ 39
theorem vokT_0 (N : List Int) : vokT N 0 := fun k _ h => absurd h (Nat.not_lt_zero _)
theorem vokT_step {N : List Int} {i : Nat} {x : Int} (h : vokT N i) (hx : N[i]? = some x) (h1 : 0 ≤ x ∧ x < 4294967296 ∧ isVip x = true) (h2 : ∀ y, 0 < i → N[i - 1]? = some y → y < x) : vokT N (i + 1) := by
  intro k x' hk hx'
  by_cases e : k = i
  · subst e; rw [hx] at hx'; cases hx'; exact ⟨h1, h2⟩
  · exact h k x' (by omega) hx'
theorem vok_bad1 {N : List Int} {i : Nat} {x : Int} (hx : N[i]? = some x) (h : ¬ (0 ≤ x ∧ x < 4294967296 ∧ isVip x = true)) : ¬ vok N := fun q => h (q i x (List.getElem?_eq_some_iff.1 hx).1 hx).1
theorem vok_bad2 {N : List Int} {i : Nat} {x y : Int} (hx : N[i]? = some x) (hi : 0 < i) (hy : N[i - 1]? = some y) (h : ¬ y < x) : ¬ vok N := fun q => h ((q i x (List.getElem?_eq_some_iff.1 hx).1 hx).2 y hi hy)
/-! ### what a listener tells -/
def oneOf (L : Lm) (m : Int) : One := (lookL L m).getD zO
def muxesL (L : Lm) (vip : Int) : List Int := (sesL L).filter fun m => (oneOf L m).vs.contains vip
def goneB (L : Lm) (now m : Int) : Bool := decide (12 < now - (oneOf L m).heard)
def goneL (L : Lm) (now : Int) : List Int := (sesL L).filter (goneB L now)
def tickK (L : Lm) (now : Int) (k : Nat) : Lm := (((sesL L).take k).filter (goneB L now)).foldl (fun l m => delL l m) L
def tickL (L : Lm) (now : Int) : Lm := tickK L now L.length
theorem fold_del : ∀ (D : List Int) (L : Lm), (L.map (·.1)).Nodup → ((D.foldl (fun l m => delL l m) L).map (·.1)).Nodup ∧ ∀ j, lookL (D.foldl (fun l m => delL l m) L) j = if j ∈ D then none else lookL L j
  | [], L, h => ⟨h, fun j => by simp⟩
  | m :: D, L, h => by
    have h1 := delL_keys L m h
    obtain ⟨h2, h3⟩ := fold_del D (delL L m) h1
    refine ⟨h2, fun j => ?_⟩
    rw [List.foldl_cons, h3 j, al_look_del h]
    by_cases hj : j ∈ D
    · rw [if_pos hj, if_pos (List.mem_cons_of_mem _ hj)]
    · rw [if_neg hj]
      by_cases e : m = j
      · subst e; rw [if_pos rfl, if_pos (List.mem_cons_self ..)]
      · rw [if_neg e, if_neg (fun q => (List.mem_cons.1 q).elim (fun q => e q.symm) hj)]
theorem sesL_nodup {L : Lm} (h : (L.map (·.1)).Nodup) : (sesL L).Nodup := (sesL_perm L).nodup_iff.2 h
theorem mem_sesL {L : Lm} {m : Int} : m ∈ sesL L ↔ ∃ o, (m, o) ∈ L := by
  rw [(sesL_perm L).mem_iff, List.mem_map]
  constructor
  · rintro ⟨⟨a, o⟩, h, rfl⟩; exact ⟨o, h⟩
  · rintro ⟨o, h⟩; exact ⟨_, h, rfl⟩
theorem tick_old {L : Lm} (h : (L.map (·.1)).Nodup) {now : Int} {k : Nat} {m : Int} (hm : (sesL L)[k]? = some m) : lookL (tickK L now k) m = lookL L m := by
  unfold tickK
  rw [(fold_del _ L h).2 m, if_neg]
  intro hmem
  have h1 := (List.mem_filter.1 hmem).1
  obtain ⟨j, hj⟩ := List.mem_iff_getElem?.1 h1
  rw [List.getElem?_take] at hj
  split at hj
  · rename_i hjk
    obtain ⟨q1, q2⟩ := List.getElem?_eq_some_iff.1 hj
    obtain ⟨q3, q4⟩ := List.getElem?_eq_some_iff.1 hm
    exact List.pairwise_iff_getElem.1 (sesL_nodup h) j k q1 q3 hjk (q2.trans q4.symm)
  · cases hj
theorem tick_gone {L : Lm} {now : Int} {k : Nat} {m : Int} (hm : (sesL L)[k]? = some m) (hg : goneB L now m = true) : tickK L now (k + 1) = delL (tickK L now k) m ∧ ((sesL L).take (k + 1)).filter (goneB L now) = ((sesL L).take k).filter (goneB L now) ++ [m] := by
  obtain ⟨hk, rfl⟩ := List.getElem?_eq_some_iff.1 hm
  have h2 : ((sesL L).take (k + 1)).filter (goneB L now) = ((sesL L).take k).filter (goneB L now) ++ [(sesL L)[k]] := by
    rw [List.take_succ_eq_append_getElem hk, List.filter_append]; simp [hg]
  refine ⟨?_, h2⟩
  unfold tickK
  rw [h2, List.foldl_append]; rfl
theorem tick_stay {L : Lm} {now : Int} {k : Nat} {m : Int} (hm : (sesL L)[k]? = some m) (hg : goneB L now m = false) : tickK L now (k + 1) = tickK L now k ∧ ((sesL L).take (k + 1)).filter (goneB L now) = ((sesL L).take k).filter (goneB L now) := by
  obtain ⟨hk, rfl⟩ := List.getElem?_eq_some_iff.1 hm
  have h2 : ((sesL L).take (k + 1)).filter (goneB L now) = ((sesL L).take k).filter (goneB L now) := by
    rw [List.take_succ_eq_append_getElem hk, List.filter_append]; simp [hg]
  exact ⟨by unfold tickK; rw [h2], h2⟩
theorem tick_sub {D : List Int} : ∀ {L : Lm}, (L.map (·.1)).Nodup → ∀ q ∈ D.foldl (fun l m => delL l m) L, q ∈ L := by
  induction D with
  | nil => intro L _ q hq; exact hq
  | cons m D ih => intro L h q hq; exact ((al_mem_del h).1 (ih (delL_keys L m h) q hq)).1
theorem lok_tick {L : Lm} (h : lok L) (hn : (L.map (·.1)).Nodup) (now : Int) (k : Nat) : lok (tickK L now k) :=
  ⟨fun q hq => h.key q (tick_sub hn q hq), fun q hq => h.bt q (tick_sub hn q hq), fun q hq => h.hd q (tick_sub hn q hq), fun q hq => h.vs q (tick_sub hn q hq)⟩
theorem lrows_tick {w : World} {R : List Nat} {L : Lm} (h : lrows w R L) (hn : (L.map (·.1)).Nodup) (now : Int) (k : Nat) : lrows w R (tickK L now k) :=
  ⟨fun q hq => h.rd q (tick_sub hn q hq), fun q hq => h.inn q (tick_sub hn q hq), h.lt⟩
theorem one_hd {L : Lm} (h : lok L) (m : Int) : 0 ≤ (oneOf L m).heard ∧ (oneOf L m).heard ≤ 1099511627776 := by
  unfold oneOf
  cases hl : lookL L m with
  | none => exact ⟨by decide, by decide⟩
  | some o => exact h.hd _ (al_look_mem hl)
theorem one_in {L : Lm} {m : Int} (h : m ∈ sesL L) : ∃ o, lookL L m = some o ∧ (m, o) ∈ L := by
  cases hl : lookL L m with
  | none => obtain ⟨o, ho⟩ := mem_sesL.1 h; exact absurd rfl (al_none.1 hl _ ho)
  | some o => exact ⟨o, rfl, al_look_mem hl⟩
def timB (n : Int) : Bool := decide (0 ≤ n ∧ n ≤ 1099511627776)
theorem mux_no {n : Int} (h : kindB n = false) : muxB n = false := by
  have h1 := of_decide_eq_false h
  exact decide_eq_false (by omega)
theorem mux_yes {n : Int} (h : kindB n = true) : (kindK n == 32) = muxB n := by
  have h1 := of_decide_eq_true h
  unfold kindK muxB
  rw [Bool.eq_iff_iff, decide_eq_true_eq, beq_iff_eq]
  (repeat' split) <;> omega
theorem mux_ct (node : Int) (w : World) (hw : isI64 node) : Calls Try.prog 33 #[.int .i64 node] w fun e w' => e = .returned (.bool (muxB node)) ∧ Fr w w' [] := by
 refine enterD (n := 17) Try.func33 rfl rfl (Nat.le_of_ble_eq_true rfl) ?_
 intro Q0 hN hret hret'
 have hC := Cx.start w
 refine WCs (fun K1 hK2 => ?_)
 refine WCg (WLq 1 [(2, .bool false)] (WLd rfl (QXn (hK2 _ _ ?_))))
 refine WCs (fun K3 hK4 => ?_)
 refine WCg (WLq 1 [(7, .int .i64 node)] ?_)
 refine WLc rfl rfl rfl rfl rfl (by kernel_rfl) (Kind_ct node w hw) ?_
 rintro _ w6 ⟨rfl, hF5⟩
 refine ⟨_, rfl, ?_⟩
 have hC7 := hC.call hF5
 refine WLq 7 [(5, .bool (kindB node)), (4, .int .i64 (kindP node)), (3, .int .i64 (kindK node)), (11, .bool (kindB node)), (10, .int .i64 (kindP node)), (9, .int .i64 (kindK node)), (6, .tuple #[.int .i64 (kindK node), .int .i64 (kindP node), .bool (kindB node)])] (WLd rfl (QXn (hK4 _ _ ?_)))
 refine WCs (fun K8 hK9 => ?_)
 refine WCg (WLq 2 [(13, .bool (kindB node)), (12, .bool (kindB node))] ?_)
 refine WLa 13 (kindB node) rfl (fun aa => ?_) (fun aa => ?_)
 ·
  refine WLq 4 [(2, .bool ((kindK node) == 32)), (16, .bool ((kindK node) == 32)), (15, .bool ((kindK node) == 32)), (14, .int .i64 (kindK node))] (WLd rfl (QXn (hK9 _ _ ?_)))
  refine WC.ret ?_
  refine (hret _ _ _ rfl ?_).1
  exact ⟨congrArg (fun b_ => Ending.returned (Value.bool b_)) (show (((kindK node) == 32) : Bool) = muxB node from mux_yes aa), hC7.fr⟩
 ·
  refine WLq 4 [(2, .bool false), (16, .bool false), (15, undef), (14, undef)] (WLd rfl (QXn (hK9 _ _ ?_)))
  refine WC.ret ?_
  refine (hret _ _ _ rfl ?_).1
  exact ⟨congrArg (fun b_ => Ending.returned (Value.bool b_)) (show (false : Bool) = muxB node from (mux_no aa).symm), hC7.fr⟩

theorem goodTime_ct (n : Int) (w : World) : Calls Try.prog 34 #[.int .i64 n] w fun e w' => e = .returned (.bool (timB n)) ∧ Fr w w' [] := by
 refine enterD (n := 9) Try.func34 rfl rfl (Nat.le_of_ble_eq_true rfl) ?_
 intro Q0 hN hret hret'
 have hC := Cx.start w
 refine WCs (fun K1 hK2 => ?_)
 refine WCg (WLq 1 [(2, .bool false)] (WLd rfl (QXn (hK2 _ _ ?_))))
 refine WCs (fun K3 hK4 => ?_)
 refine WCg (WLq 3 [(5, .bool (decide (n ≥ 0))), (4, .bool (decide (n ≥ 0))), (3, .int .i64 n)] ?_)
 refine WLa 5 (decide (n ≥ 0)) rfl (fun t5b => ?_) (fun t5b => ?_)
 ·
  have t5 : (0 : Int) ≤ n := by have q_ := of_decide_eq_true t5b; omega
  refine WLq 4 [(2, .bool (decide (n ≤ 1099511627776))), (8, .bool (decide (n ≤ 1099511627776))), (7, .bool (decide (n ≤ 1099511627776))), (6, .int .i64 n)] (WLd rfl (QXn (hK4 _ _ ?_)))
  refine WC.ret ?_
  refine (hret _ _ _ rfl ?_).1
  clear hN hret hret' hK4 hK2
  have hg_ : ((decide (n ≤ 1099511627776)) : Bool) = timB n := by unfold timB; first | rfl | (rw [Bool.eq_iff_iff]; simp; omega) | (simp; omega)
  exact ⟨congrArg (fun b_ => Ending.returned (Value.bool b_)) hg_, hC.fr⟩
 ·
  have t5 : n < 0 := by have q_ := of_decide_eq_false t5b; omega
  refine WLq 4 [(2, .bool false), (8, .bool false), (7, undef), (6, undef)] (WLd rfl (QXn (hK4 _ _ ?_)))
  refine WC.ret ?_
  refine (hret _ _ _ rfl ?_).1
  clear hN hret hret' hK4 hK2
  have hg_ : (false : Bool) = timB n := by unfold timB; first | rfl | (rw [Bool.eq_iff_iff]; simp; omega) | (simp; omega)
  exact ⟨congrArg (fun b_ => Ending.returned (Value.bool b_)) hg_, hC.fr⟩

theorem CloneI (A : Option Addr) (n c : Nat) (xs : List Int) (w : World) (hn : xs.length = n) (hrd : Rd w 1 (Go.Tw.encI .i64) A xs) (hlim : xs.length ≤ 2199023255552) : Calls Try.prog 63 #[.slice A n c] w fun e w' => ∃ v, e = .returned v ∧ Fr w w' [] ∧ w'.ownsRow w.heap.size 3 1 v xs.length (xs.flatMap (Go.Tw.encI .i64)) := by
 refine enterD (n := 8) Try.func63 rfl rfl (Nat.le_of_ble_eq_true rfl) ?_
 intro Q0 hN hret hret'
 have hC := Cx.start w
 refine WCs (fun K1 hK2 => ?_)
 refine WCg (WLq 1 [(2, .slice none 0 0)] (WLd rfl (QXn (hK2 _ _ ?_))))
 refine WCs (fun K3 hK4 => ?_)
 refine WCs (fun K5 hK6 => ?_)
 refine WCg (WLq 1 [(3, .slice A n c)] ?_)
 have hr7 : ∀ w_, Sem.run Try.prog (do eqGuard .eql 37 (Operand.tmp 3) (Operand.const (.slice none 0 0)) (.slice A n c) (.slice none 0 0); binOp .eql 37 (.slice A n c) (.slice none 0 0)) w_ = .ok (.bool (Option.isNone A)) w_ := fun w_ => (by cases (A : Option Addr) <;> kernel_rfl)
 refine WL.sem (do eqGuard .eql 37 (Operand.tmp 3) (Operand.const (.slice none 0 0)) (.slice A n c) (.slice none 0 0); binOp .eql 37 (.slice A n c) (.slice none 0 0)) 4 (.bool (Option.isNone A)) (by kernel_rfl) (hr7 _) ?_
 refine WLd rfl (QXn (hK6 _ _ ?_))
 refine WCa 4 (Option.isNone A) rfl (fun t8b => ?_) (fun t8b => ?_)
 ·
  refine WCt rfl ?_
  refine WCs (fun K9 aa => ?_)
  refine WCg (WLq 1 [(2, .slice none 0 0)] (WLd rfl (QXn (aa _ _ ?_))))
  refine WC.ret ?_
  refine QXr ?_
  refine (hret _ _ _ rfl ?_).1
  clear hN hret hret' aa hK6 hK4 hK2
  have hA_ : A = none := by simpa using t8b
  subst hA_
  obtain rfl := Rd.of_none hrd
  exact ⟨_, rfl, hC.fr, own_nil _ _ _ _⟩
 ·
  refine WCf rfl (WC.skip (QXn (hK4 _ _ ?_)))
  refine WCs (fun aw ab => ?_)
  refine WCg ?_
  refine WL.newM hC (fun b => .slice (some ⟨b, 0, none⟩) 0 0) (.cells #[] 3) 5 (fun _ => by kernel_rfl) (fun ag ap aq ar ac => ?_)
  refine WLq 1 [(6, .slice A n c)] ?_
  have ah : World.ownsRow ap 0 3 1 (.slice (some ⟨ag, 0, none⟩) 0 0) 0 [] := own_of_blk (Nat.zero_le _) (ac.get 0 rfl) (Nat.le_refl _) (Nat.zero_le _) (by simp) rfl
  have ad := ac.toF 0 rfl
  obtain ⟨ax, au, ai, aj, av, ae, ak, al⟩ := app_run Try.prog ad 0 (v := .slice (some ⟨ag, 0, none⟩) 0 0) rfl 37 37 3 1 8 0 n c A rfl ah (xs.flatMap (Go.Tw.encI .i64)) (flat_len_n (Go.Tw.encI_len _) (by first | rfl | assumption | (simp; done) | (simp; omega))) (Rd.src_n (Rd.fr hrd ad.fr) (Go.Tw.encI_len _) (by decide) (by first | rfl | assumption | (simp; done) | (simp; omega))) (flat_one (Go.Tw.encI_one _) _) (by simp only [maxLen]; omega) (by omega)
  have af := own_app (enc := (Go.Tw.encI .i64)) (ys := []) (zs := xs) aj
  obtain ⟨am, an, rfl, ao⟩ := own_form af
  refine WL.sem (Builtin.append_ #[37, 37] 37 #[.slice (some ⟨ag, 0, none⟩) 0 0, .slice A n c]) 7 (.slice am (0 + n) an) (by kernel_rfl) ai ?_
  refine WLq 1 [(2, .slice am (0 + n) an)] (WLd rfl (QXn (ab _ _ ?_)))
  refine WC.ret ?_
  refine (hret _ _ _ rfl ?_).1
  clear hN hret hret' ab hK6 hK4 hK2
  subst hn
  exact ⟨_, rfl, ae.fr, show World.ownsRow au w.heap.size 3 1 (.slice am (0 + xs.length) an) xs.length (xs.flatMap (Go.Tw.encI .i64)) from by have q_ := own_base af (ae.geF 0 rfl); simpa using q_⟩

theorem Make_ct (kind : Int) (A : Option Addr) (c : Nat) (xs : List Int) (w : World) (hrd : Rd w 1 (Go.Tw.encI .i64) A xs) (hlim : xs.length ≤ 2199023255552) : Calls Try.prog 51 #[.int .i64 kind, .slice A xs.length c] w fun e w' => ∃ (A2 : Option Addr) (c2 : Nat), e = .returned (.agg #[.int .i64 kind, .slice A2 xs.length c2, .slice none 0 0]) ∧ Fr w w' [] ∧ w'.ownsRow w.heap.size 3 1 (.slice A2 xs.length c2) xs.length (xs.flatMap (Go.Tw.encI .i64)) := by
 refine enterD (n := 9) Try.func51 rfl rfl (Nat.le_of_ble_eq_true rfl) ?_
 intro Q0 hN hret hret'
 have hC := Cx.start w
 refine WCs (fun K1 hK2 => ?_)
 refine WCg ?_
 refine WL.newM hC (fun b => .pointer (some ⟨b, 0, none⟩)) (.cells #[.int .i64 0, .slice none 0 0, .slice none 0 0] 40) 4 (fun _ => by kernel_rfl) (fun g3 w4 hb7 hF5 hC6 => ?_)
 refine WLd rfl (QXn (hK2 _ _ ?_))
 refine WCs (fun K8 hK9 => ?_)
 refine WCg (WLq 2 [(6, .slice A xs.length c), (5, .int .i64 kind)] ?_)
 refine WLc rfl rfl rfl rfl rfl (by kernel_rfl) (CloneI A xs.length c xs w4 (by first | rfl | assumption | omega) (Rd.fr hrd hC6.fr) (by omega)) ?_
 rintro _ ak ⟨v_, rfl, af, aa⟩
 have ac := hC6.callN af (own_ge aa) (own_lt aa)
 obtain ⟨ad, ae, rfl, aj⟩ := own_form aa
 have ag := own_base (b' := 0) aa (fun _ _ => Nat.zero_le _)
 refine ⟨_, rfl, ?_⟩
 refine WLq 1 [(8, .agg #[.int .i64 kind, .slice ad xs.length ae, .slice none 0 0])] ?_
 refine WLs (c' := #[.int .i64 kind, .slice ad xs.length ae, .slice none 0 0]) ac 0 40 g3 0 (.agg #[.int .i64 kind, .slice ad xs.length ae, .slice none 0 0]) (by kernel_rfl) rfl (by kernel_rfl) (fun al ah ab => ?_)
 have ai := own_fr ag ah (ac.apartM 0 0 rfl rfl)
 refine WLd rfl (QXn (hK9 _ _ ?_))
 refine WC.ret ?_
 refine (hret' _ _ (.agg #[.int .i64 kind, .slice ad xs.length ae, .slice none 0 0]) (fun a ha => ?_) ?_).1
 ·
  exact res_run ha ((ResR.cell rfl (run_ld (ab.get 0 rfl) rfl) ResR.nil)) rfl
 exact ⟨_, _, rfl, ab.fr, own_base ai (ab.geF 0 rfl)⟩

theorem Make_n (kind : Int) (A : Option Addr) (n c : Nat) (xs : List Int) (w : World) (hrd : Rd w 1 (Go.Tw.encI .i64) A xs) (hn : xs.length = n) (hlim : n ≤ 2199023255552) : Calls Try.prog 51 #[.int .i64 kind, .slice A n c] w fun e w' => ∃ (A2 : Option Addr) (c2 : Nat), e = .returned (.agg #[.int .i64 kind, .slice A2 n c2, .slice none 0 0]) ∧ Fr w w' [] ∧ w'.ownsRow w.heap.size 3 1 (.slice A2 n c2) n (xs.flatMap (Go.Tw.encI .i64)) := by subst hn; exact Make_ct kind A c xs w hrd hlim
theorem Make_x (kind : Int) (A : Option Addr) (n c : Nat) (xs : List Int) (w : World) (hrd : Rd w 1 (Go.Tw.encI .i64) A xs) (hn : xs.length = n) (hlim : n ≤ 2199023255552) : Calls Try.prog 51 #[.int .i64 kind, .slice A n c] w fun e w' => ∃ (A2 : Option Addr) (c2 : Nat), e = .returned (.agg #[.int .i64 kind, .slice A2 xs.length c2, .slice none 0 0]) ∧ Fr w w' [] ∧ w'.ownsRow w.heap.size 3 1 (.slice A2 xs.length c2) xs.length (xs.flatMap (Go.Tw.encI .i64)) := by subst hn; exact Make_ct kind A c xs w hrd hlim
theorem take_snocI {L : List Int} {i : Nat} {x : Int} (h : L[i]? = some x) : L.take (i + 1) = L.take i ++ [x] := by
  obtain ⟨hi, rfl⟩ := List.getElem?_eq_some_iff.1 h
  exact List.take_succ_eq_append_getElem hi
set_option maxHeartbeats 1000000 in
theorem vipsOf_ct (A : Option Addr) (c : Nat) (xs : List Int) (w : World) (hr : Rd w 1 (Go.Tw.encI .i64) A xs) (hl : xs.length ≤ 1099511627776) : Calls Try.prog 52 #[.slice A xs.length c] w fun e w' => (vok xs ∧ ∃ (A2 : Option Addr) (c2 : Nat), e = .returned (.tuple #[.slice A2 xs.length c2, .bool (decide (xs.length ≤ 39))]) ∧ Fr w w' [] ∧ w'.ownsRow w.heap.size 44 1 (.slice A2 xs.length c2) xs.length (xs.flatMap (Go.Tw.encI .u32))) ∨ (¬ vok xs ∧ e = .returned (.tuple #[.slice none 0 0, .bool false]) ∧ Fr w w' []) := by
 refine enterD (n := 49) Try.func52 rfl rfl (Nat.le_of_ble_eq_true rfl) ?_
 intro Q0 hN hret hret'
 have hC := Cx.start w
 refine WCs (fun K1 hK2 => ?_)
 refine WCg (WLq 2 [(3, .bool false), (2, .slice none 0 0)] (WLd rfl (QXn (hK2 _ _ ?_))))
 refine WCs (fun K3 hK4 => ?_)
 refine WCg (WLq 1 [(4, .slice none 0 0)] (WLd rfl (QXn (hK4 _ _ ?_))))
 refine WCs (fun K5 hK6 => ?_)
 refine WCs (fun K7 hK8 => ?_)
 refine WCg (WLq 3 [(9, .int .i64 0), (8, .int .i64 (xs.length : Int)), (7, .slice A xs.length c)] (WLd rfl (QXn (hK8 _ _ ?_))))
 refine WC.block ?_
 have hC9 := hC.addNil
 refine WC.loop (fun m_ E_ w_ => ∃ (i : Nat) (A5 : Option Addr) (n5 c5 : Nat), m_ = xs.length - i ∧ E_ = [(0, .slice A xs.length c), (4, .slice A5 n5 c5), (7, .slice A xs.length c), (8, .int .i64 (xs.length : Int)), (9, .int .i64 (i : Int))] ∧ Cx w [] w_ [] [blk (.slice A5 n5 c5)] ∧ World.ownsRow w_ 0 44 1 (.slice A5 n5 c5) n5 ((xs.take i).flatMap (Go.Tw.encI .u32)) ∧ (i ≤ xs.length ∧ vokT xs i)) ⟨_, _, ⟨0, none, 0, 0, rfl, rfl, hC9, own_nil _ _ _ _, Nat.zero_le _, vokT_0 _⟩, sub_of ⟨rfl, rfl, rfl, rfl, rfl, trivial⟩⟩ (fun m13 E_ ba bk an aC => ?_)
 obtain ⟨i, A5, n5, c5, rfl, rfl, ac, hrow, hi, hv⟩ := aC
 have hcn_ := own_count (Go.Tw.encI_len _) (by decide) hrow
 rw [List.length_take] at hcn_
 refine WCs (fun bl ao => ?_)
 refine WCg (WLq 1 [(10, .bool (decide ((i : Int) < (xs.length : Int))))] (WLd rfl (QXn (ao _ _ ?_))))
 refine WCs (fun bm ap => ?_)
 refine WCa 10 (decide ((i : Int) < (xs.length : Int))) rfl (fun ag => ?_) (fun ag => ?_)
 ·
  have bb : (i : Int) < (xs.length : Int) := by have q_ := of_decide_eq_true ag; omega
  refine WCt rfl ?_
  refine WC.skip ?_
  refine QXn (ap _ _ ?_)
  refine WCs (fun bn aq => ?_)
  refine WC.block ?_
  refine WCs (fun bo aD => ?_)
  refine WCg (WLq 1 [(11, .int .i64 (i : Int))] ?_)
  obtain ⟨aa, ab⟩ := get_some (xs := xs) (i := i) (by omega)
  obtain ⟨b27, o29, aE, aF⟩ := hr.at_ _ _ ab
  refine WLi A xs.length c 12 .i64 (i : Int) b27 o29 i 1 (by kernel_rfl) aE (by omega) (by omega) (o29 + i) (by first | (simp; done) | omega) ?_
  refine WLo 3 (.pointer (some ⟨b27, o29 + i, none⟩)) (.int .i64 aa) 13 (run_load1 rfl (by simpa [Nat.add_assoc] using ac.fr.cell (aF 0 _ rfl) (by simp))) ?_
  refine WLq 2 [(6, .int .i64 aa), (5, .int .i64 (i : Int))] (WLd rfl (QXn (aD _ _ ?_)))
  refine WCs (fun bp ar => ?_)
  refine WCs (fun bq ad => ?_)
  refine WCg (WLq 3 [(16, .bool (decide (aa < 0))), (15, .bool (decide (aa < 0))), (14, .int .i64 aa)] ?_)
  refine WLa 16 (decide (aa < 0)) rfl (fun ah => ?_) (fun ah => ?_)
  ·
   have bc : aa < 0 := by have q_ := of_decide_eq_true ah; omega
   refine WLq 22 [(38, .bool true), (37, undef), (36, undef), (35, undef), (34, undef), (33, undef), (32, undef), (31, undef), (30, undef), (29, undef), (28, undef), (27, undef), (26, .bool true), (25, .bool true), (24, undef), (23, undef), (22, undef), (21, undef), (20, .bool true), (19, .bool true), (18, undef), (17, undef)] (WLd rfl (QXn (ad _ _ ?_)))
   refine WCt rfl ?_
   refine WCs (fun br aG => ?_)
   refine WCg (WLq 2 [(3, .bool false), (2, .slice none 0 0)] (WLd rfl (QXn (aG _ _ ?_))))
   refine WC.ret ?_
   refine QXr ?_
   refine QXk ?_
   refine QXr ?_
   refine QXr ?_
   refine QXk ?_
   refine QXr ?_
   refine (hret _ _ _ rfl ?_).1
   exact .inr ⟨vok_bad1 ab (fun q_ => by omega), rfl, ac.fr⟩
  ·
   have bc : (0 : Int) ≤ aa := by have q_ := of_decide_eq_false ah; omega
   refine WLq 4 [(20, .bool (decide (aa ≥ 4294967296))), (19, .bool (decide (aa ≥ 4294967296))), (18, .bool (decide (aa ≥ 4294967296))), (17, .int .i64 aa)] ?_
   refine WLa 20 (decide (aa ≥ 4294967296)) rfl (fun ai => ?_) (fun ai => ?_)
   ·
    have bd : (4294967296 : Int) ≤ aa := by have q_ := of_decide_eq_true ai; omega
    refine WLq 18 [(38, .bool true), (37, undef), (36, undef), (35, undef), (34, undef), (33, undef), (32, undef), (31, undef), (30, undef), (29, undef), (28, undef), (27, undef), (26, .bool true), (25, .bool true), (24, undef), (23, undef), (22, undef), (21, undef)] (WLd rfl (QXn (ad _ _ ?_)))
    refine WCt rfl ?_
    refine WCs (fun bs aH => ?_)
    refine WCg (WLq 2 [(3, .bool false), (2, .slice none 0 0)] (WLd rfl (QXn (aH _ _ ?_))))
    refine WC.ret ?_
    refine QXr ?_
    refine QXk ?_
    refine QXr ?_
    refine QXr ?_
    refine QXk ?_
    refine QXr ?_
    refine (hret _ _ _ rfl ?_).1
    exact .inr ⟨vok_bad1 ab (fun q_ => by omega), rfl, ac.fr⟩
   ·
    have bd : aa < 4294967296 := by have q_ := of_decide_eq_false ai; omega
    refine WLq 2 [(22, .int .u32 (IntKind.u32.wrap (aa))), (21, .int .i64 aa)] ?_
    refine WLt (show (.int .u32 (IntKind.u32.wrap (aa)) : Value) = .int .u32 aa from by rw [wrap_in_u32 _ (by omega) (by omega)]) ?_
    refine WLc rfl rfl rfl rfl rfl (by kernel_rfl) (IsVip_ct aa ba (by omega) (by omega)) ?_
    rintro _ bt ⟨rfl, au⟩
    refine ⟨_, rfl, ?_⟩
    have ae := ac.call au
    have av := own_fr hrow au (by simp)
    refine WLq 3 [(26, .bool (!(isVip aa))), (25, .bool (!(isVip aa))), (24, .bool (!(isVip aa)))] ?_
    refine WLa 26 (!(isVip aa)) rfl (fun af => ?_) (fun af => ?_)
    ·
     have aB : (isVip aa) = false := by first | (simpa only [Bool.not_eq_true', Bool.not_eq_false'] using af) | simpa using af
     refine WLq 12 [(38, .bool true), (37, undef), (36, undef), (35, undef), (34, undef), (33, undef), (32, undef), (31, undef), (30, undef), (29, undef), (28, undef), (27, undef)] (WLd rfl (QXn (ad _ _ ?_)))
     refine WCt rfl ?_
     refine WCs (fun bu aI => ?_)
     refine WCg (WLq 2 [(3, .bool false), (2, .slice none 0 0)] (WLd rfl (QXn (aI _ _ ?_))))
     refine WC.ret ?_
     refine QXr ?_
     refine QXk ?_
     refine QXr ?_
     refine QXr ?_
     refine QXk ?_
     refine QXr ?_
     refine (hret _ _ _ rfl ?_).1
     exact .inr ⟨vok_bad1 ab (fun q_ => by rw [aB] at q_; exact absurd q_.2.2 (by simp)), rfl, ae.fr⟩
    ·
     have aB : (isVip aa) = true := by first | (simpa only [Bool.not_eq_true', Bool.not_eq_false'] using af) | simpa using af
     refine WLq 3 [(29, .bool (decide ((i : Int) > 0))), (28, .bool (decide ((i : Int) > 0))), (27, .int .i64 (i : Int))] ?_
     refine WLa 29 (decide ((i : Int) > 0)) rfl (fun aj => ?_) (fun aj => ?_)
     ·
      have be : (0 : Int) < (i : Int) := by have q_ := of_decide_eq_true aj; omega
      refine WLq 3 [(32, .int .i64 (IntKind.i64.wrap ((i : Int) - 1))), (31, .int .i64 (i : Int)), (30, .slice A xs.length c)] ?_
      refine WLt (show (.int .i64 (IntKind.i64.wrap ((i : Int) - 1)) : Value) = .int .i64 ((i - 1 : Nat) : Int) from by rw [wrap_in_i64 _ (by omega) (by omega)]; congr 1; omega) ?_
      obtain ⟨ak, al⟩ := get_some (xs := xs) (i := (i - 1)) (by omega)
      obtain ⟨b51, o53, aJ, aK⟩ := hr.at_ _ _ al
      refine WLi A xs.length c 33 .i64 ((i - 1 : Nat) : Int) b51 o53 (i - 1) 1 (by kernel_rfl) aJ (by omega) (by omega) (o53 + (i - 1)) (by first | (simp; done) | omega) ?_
      refine WLo 3 (.pointer (some ⟨b51, o53 + (i - 1), none⟩)) (.int .i64 ak) 34 (run_load1 rfl (by simpa [Nat.add_assoc] using ae.fr.cell (aK 0 _ rfl) (by simp))) ?_
      refine WLq 4 [(38, .bool (decide (ak ≥ aa))), (37, .bool (decide (ak ≥ aa))), (36, .bool (decide (ak ≥ aa))), (35, .int .i64 aa)] (WLd rfl (QXn (ad _ _ ?_)))
      refine WCa 38 (decide (ak ≥ aa)) rfl (fun am => ?_) (fun am => ?_)
      ·
       have bf : aa ≤ ak := by have q_ := of_decide_eq_true am; omega
       refine WCt rfl ?_
       refine WCs (fun bv aL => ?_)
       refine WCg (WLq 2 [(3, .bool false), (2, .slice none 0 0)] (WLd rfl (QXn (aL _ _ ?_))))
       refine WC.ret ?_
       refine QXr ?_
       refine QXk ?_
       refine QXr ?_
       refine QXr ?_
       refine QXk ?_
       refine QXr ?_
       refine (hret _ _ _ rfl ?_).1
       exact .inr ⟨vok_bad2 ab (by omega) al (by omega), rfl, ae.fr⟩
      ·
       have bf : ak < aa := by have q_ := of_decide_eq_false am; omega
       refine WCf rfl (WC.skip (QXn (ar _ _ ?_)))
       refine WCg (WLq 3 [(41, .int .u32 (IntKind.u32.wrap (aa))), (40, .int .i64 aa), (39, .slice A5 n5 c5)] ?_)
       refine WLt (show (.int .u32 (IntKind.u32.wrap (aa)) : Value) = .int .u32 aa from by rw [wrap_in_u32 _ (by omega) (by omega)]) ?_
       refine WL.newM ae (fun b => .slice (some ⟨b, 0, none⟩) 1 1) (.cells #[.int .u32 aa] 44) 42 (fun _ => by kernel_rfl) (fun a6 bw bg aM aw => ?_)
       have aN := own_fr av aM (by simp)
       obtain ⟨bx, bz, aO, aP, bh, aQ, aR, aS⟩ := app_run Try.prog aw 0 (v := .slice A5 n5 c5) rfl 33 33 44 1 4 n5 1 1 (some ⟨a6, 0, none⟩) rfl aN [.int .u32 aa] rfl (srcOk.blk 1 (aw.get 0 rfl)) rfl (by simp only [maxLen]; omega) (by omega)
       have ax := own_snoc (enc := (Go.Tw.encI .u32)) (ys := (xs.take i)) aa aP
       obtain ⟨aT, aU, rfl, a7⟩ := own_form ax
       refine WL.sem (Builtin.append_ #[33, 33] 33 #[.slice A5 n5 c5, .slice (some ⟨a6, 0, none⟩) 1 1]) 43 (.slice aT (n5 + 1) aU) (by kernel_rfl) aO ?_
       refine WLq 1 [(4, .slice aT (n5 + 1) aU)] ?_
       refine WLd rfl ?_
       refine QXb ?_
       refine QXn (aq _ _ ?_)
       refine WCg (WLq 1 [(44, .int .i64 (IntKind.i64.wrap ((i : Int) + 1)))] ?_)
       refine WLt (show (.int .i64 (IntKind.i64.wrap ((i : Int) + 1)) : Value) = .int .i64 ((i : Int) + 1) from by rw [wrap_in_i64 ((i : Int) + 1) (by omega) (by omega)]) ?_
       refine WLq 1 [(9, .int .i64 ((i : Int) + 1))] ?_
       refine WLd rfl ?_
       refine QXn ?_
       have aV := aQ.pick [] [0] rfl rfl
       refine fun a_ ha_ => an _ _ _ ?_ ⟨i + 1, aT, n5 + 1, aU, rfl, rfl, aV, (by rw [take_snocI ab]; exact ax), by omega, vokT_step hv ab ⟨by omega, by omega, aB⟩ (fun y_ _ hy_ => by rw [al] at hy_; cases hy_; omega)⟩ a_ (ha_.weaken (sub_of ⟨rfl, rfl, rfl, rfl, rfl, trivial⟩))
       omega
     ·
      have be : (i : Int) ≤ 0 := by have q_ := of_decide_eq_false aj; omega
      refine WLq 9 [(38, .bool false), (37, .bool false), (36, undef), (35, undef), (34, undef), (33, undef), (32, undef), (31, undef), (30, undef)] (WLd rfl (QXn (ad _ _ ?_)))
      refine WCf rfl (WC.skip (QXn (ar _ _ ?_)))
      refine WCg (WLq 3 [(41, .int .u32 (IntKind.u32.wrap (aa))), (40, .int .i64 aa), (39, .slice A5 n5 c5)] ?_)
      refine WLt (show (.int .u32 (IntKind.u32.wrap (aa)) : Value) = .int .u32 aa from by rw [wrap_in_u32 _ (by omega) (by omega)]) ?_
      refine WL.newM ae (fun b => .slice (some ⟨b, 0, none⟩) 1 1) (.cells #[.int .u32 aa] 44) 42 (fun _ => by kernel_rfl) (fun a8 bA bi aW ay => ?_)
      have aX := own_fr av aW (by simp)
      obtain ⟨bB, bC, aY, aZ, bj, a0, a1, a2⟩ := app_run Try.prog ay 0 (v := .slice A5 n5 c5) rfl 33 33 44 1 4 n5 1 1 (some ⟨a8, 0, none⟩) rfl aX [.int .u32 aa] rfl (srcOk.blk 1 (ay.get 0 rfl)) rfl (by simp only [maxLen]; omega) (by omega)
      have az := own_snoc (enc := (Go.Tw.encI .u32)) (ys := (xs.take i)) aa aZ
      obtain ⟨a3, a4, rfl, a9⟩ := own_form az
      refine WL.sem (Builtin.append_ #[33, 33] 33 #[.slice A5 n5 c5, .slice (some ⟨a8, 0, none⟩) 1 1]) 43 (.slice a3 (n5 + 1) a4) (by kernel_rfl) aY ?_
      refine WLq 1 [(4, .slice a3 (n5 + 1) a4)] ?_
      refine WLd rfl ?_
      refine QXb ?_
      refine QXn (aq _ _ ?_)
      refine WCg (WLq 1 [(44, .int .i64 (IntKind.i64.wrap ((i : Int) + 1)))] ?_)
      refine WLt (show (.int .i64 (IntKind.i64.wrap ((i : Int) + 1)) : Value) = .int .i64 ((i : Int) + 1) from by rw [wrap_in_i64 ((i : Int) + 1) (by omega) (by omega)]) ?_
      refine WLq 1 [(9, .int .i64 ((i : Int) + 1))] ?_
      refine WLd rfl ?_
      refine QXn ?_
      have a5 := a0.pick [] [0] rfl rfl
      refine fun a_ ha_ => an _ _ _ ?_ ⟨i + 1, a3, n5 + 1, a4, rfl, rfl, a5, (by rw [take_snocI ab]; exact az), by omega, vokT_step hv ab ⟨by omega, by omega, aB⟩ (fun _ h_ _ => by omega)⟩ a_ (ha_.weaken (sub_of ⟨rfl, rfl, rfl, rfl, rfl, trivial⟩))
      omega
 ·
  have bb : (xs.length : Int) ≤ (i : Int) := by have q_ := of_decide_eq_false ag; omega
  refine WCf rfl ?_
  refine WC.exit ?_
  refine QXe ?_
  refine QXe ?_
  refine QX.block_hit ?_
  refine QXn (hK6 _ _ ?_)
  refine WCs (fun bD aA => ?_)
  refine WCg (WLq 6 [(3, .bool (decide ((xs.length : Int) ≤ 39))), (2, .slice A5 n5 c5), (48, .bool (decide ((xs.length : Int) ≤ 39))), (47, .int .i64 (xs.length : Int)), (46, .slice A xs.length c), (45, .slice A5 n5 c5)] (WLd rfl (QXn (aA _ _ ?_))))
  refine WC.ret ?_
  refine (hret _ _ _ rfl ?_).1
  clear hN hret hret' aA ap ao hK8 hK6 hK4 hK2
  have hie_ : i = xs.length := by omega
  rw [hie_] at hv
  have ho_ := hrow
  rw [hie_, List.take_length] at ho_
  have hn_ : n5 = xs.length := by omega
  subst hn_
  exact .inl ⟨hv, _, _, by rw [show decide (xs.length ≤ 39) = decide ((xs.length : Int) ≤ 39) from decide_eq_decide.2 (by omega)]; rfl, ac.fr, own_base ho_ (ac.geF 0 rfl)⟩

theorem vipsOf_n (A : Option Addr) (n c : Nat) (xs : List Int) (w : World) (hr : Rd w 1 (Go.Tw.encI .i64) A xs) (hn : xs.length = n) (hl : n ≤ 1099511627776) : Calls Try.prog 52 #[.slice A n c] w fun e w' => (vok xs ∧ ∃ (A2 : Option Addr) (c2 : Nat), e = .returned (.tuple #[.slice A2 xs.length c2, .bool (decide (xs.length ≤ 39))]) ∧ Fr w w' [] ∧ w'.ownsRow w.heap.size 44 1 (.slice A2 xs.length c2) xs.length (xs.flatMap (Go.Tw.encI .u32))) ∨ (¬ vok xs ∧ e = .returned (.tuple #[.slice none 0 0, .bool false]) ∧ Fr w w' []) := by subst hn; exact vipsOf_ct A c xs w hr hl
end Go.Proofs.Ytmahghppojbeoaa
