/- Contracts of functions of the program, each proved by a walk through its code; conditions stand in the statements. -/
import Derived.Test.YtfligklljkcbfaaDoorStS16
namespace Go.Proofs.YtfligklljkcbfaaDoor
set_option linter.unusedSimpArgs false
set_option linter.unusedVariables false
set_option linter.unusedSectionVars false
open Go Go.RowKit Go.Tw
set_option linter.unusedVariables false
set_option maxRecDepth 20000
def zeroS : SvcV := ⟨0, 0, 0, []⟩
def findS (vs : List SvcV) (k : K3) : Option SvcV := vs.find? (fun s => decide (kV s = k))
def getS (vs : List SvcV) (k : K3) : SvcV := (findS vs k).getD zeroS
def hasS (vs : List SvcV) (k : K3) : Bool := (findS vs k).isSome
def sickB (ks : List Int) (d : Int) : Bool := ks.any (fun x => decide (x = d))
def wellL (ks : List Int) (es : List EndV) : List EndV := es.filter (fun e => !sickB ks e.dip)
/-! the laws of the last command -/
/-- the last command of a log, and what it came to -/
structure LastC (D : CfgV) (C : CfgV) (r : ResV) (c : CmdV) (n : Nat) : Prop where
  good : goodC c = true
  wf : wfCfg D n
  hC : C = if c.kind = 1 then svcC D (svcOf c) else if c.kind = 2 then snatC D ⟨c.dip, c.vip⟩ c.up else if c.kind = 3 then sickC D c.dip c.up else leaseC D c.dip
  hr : r = if c.kind = 1 then svcR D (svcOf c) else if c.kind = 2 then snatR D ⟨c.dip, c.vip⟩ c.up else if c.kind = 3 then okR else leaseR D c.dip
theorem sameEnds (A B : Option Addr) (c d : Nat) (xs ys : List EndV) (w : World) (hA : Rd w 3 cellsE A xs) (hB : Rd w 3 cellsE B ys) (hlx : xs.length ≤ 1099511627776) : Calls Tryd.prog 17 #[.slice A xs.length c, .slice B ys.length d] w fun e w' => e = .returned (.bool (decide (xs = ys))) ∧ Fr w w' [] := by
 refine enterD (n := 26) Tryd.func17 rfl rfl (Nat.le_of_ble_eq_true rfl) ?_
 intro Q0 hN hret hret'
 have hC := Cx.start w
 refine WCs (fun K1 hK2 => ?_)
 refine WCg (WLr 1 [(4, .bool false)] (fun _ => by kernel_rfl) (WLd rfl (QXn (hK2 _ _ ?_))))
 refine WCs (fun K3 hK4 => ?_)
 refine WCs (fun K5 hK6 => ?_)
 refine WCg (WLr 5 [(10, .bool ((xs.length : Int) != (ys.length : Int))), (9, .int .i64 (ys.length : Int)), (8, .slice B ys.length d), (7, .int .i64 (xs.length : Int)), (6, .slice A xs.length c)] (fun _ => by kernel_rfl) (WLd rfl (QXn (hK6 _ _ ?_))))
 refine WCa 10 ((xs.length : Int) != (ys.length : Int)) rfl (fun t7b => ?_) (fun t7b => ?_)
 ·
  have t7 : (xs.length : Int) ≠ (ys.length : Int) := by simpa using t7b
  refine WCt rfl ?_
  refine WCs (fun K8 hK9 => ?_)
  refine WCg (WLr 1 [(4, .bool false)] (fun _ => by kernel_rfl) (WLd rfl (QXn (hK9 _ _ ?_))))
  refine WC.ret ?_
  refine QXr ?_
  refine (hret _ _ _ rfl ?_).1
  exact ⟨congrArg (fun b_ => Ending.returned (Value.bool b_)) (decide_eq_false (fun e_ => by subst e_; omega)).symm, hC.fr⟩
 ·
  have t7 : (xs.length : Int) = (ys.length : Int) := by simpa using t7b
  refine WCf rfl (WC.skip (QXn (hK4 _ _ ?_)))
  refine WCs (fun K10 hK11 => ?_)
  refine WCs (fun K12 hK13 => ?_)
  refine WCg (WLr 1 [(5, .int .i64 0)] (fun _ => by kernel_rfl) (WLd rfl (QXn (hK13 _ _ ?_))))
  refine WC.block ?_
  refine WC.loop (fun m_ E_ w_ => ∃ (i : Nat), m_ = xs.length - i ∧ E_ = [(0, .slice A xs.length c), (1, .slice B ys.length d), (5, .int .i64 (i : Int))] ∧ Cx w [] w_ [] [] ∧ (i ≤ xs.length ∧ xs.take i = ys.take i)) ⟨_, _, ⟨0, rfl, rfl, hC, Nat.zero_le _, rfl⟩, sub_of ⟨rfl, rfl, rfl, trivial⟩⟩ (fun m17 E_ w18 K14 hK15 hI16 => ?_)
  obtain ⟨i, rfl, rfl, hC19, hi, hpre⟩ := hI16
  refine WCs (fun K20 hK21 => ?_)
  refine WCs (fun K22 hK23 => ?_)
  refine WCg (WLr 4 [(14, .bool (decide ((i : Int) < (xs.length : Int)))), (13, .int .i64 (xs.length : Int)), (12, .slice A xs.length c), (11, .int .i64 (i : Int))] (fun _ => by kernel_rfl) (WLd rfl (QXn (hK23 _ _ ?_))))
  refine WCa 14 (decide ((i : Int) < (xs.length : Int))) rfl (fun t24b => ?_) (fun t24b => ?_)
  ·
   have t24 : (i : Int) < (xs.length : Int) := by have q_ := of_decide_eq_true t24b; omega
   refine WCt rfl ?_
   refine WC.skip ?_
   refine QXn (hK21 _ _ ?_)
   refine WCs (fun K25 hK26 => ?_)
   refine WC.block ?_
   refine WCs (fun K27 hK28 => ?_)
   refine WC.drawC hC19 [] (by kernel_rfl) (fun w29 hF30 hC31 hS32 => ?_)
   refine WDp (NPt (NPb (NPt (NPt (NPb (NPt hN)))))) 0 17 (.slice A xs.length c) (by kernel_rfl) (fun _ => by kernel_rfl) hS32 ?_
   refine WDp (NPt (NPb (NPt (NPt (NPb (NPt hN)))))) 1 18 (.int .i64 (i : Int)) (by kernel_rfl) (fun _ => by kernel_rfl) hS32 ?_
   obtain ⟨e33, he34⟩ := get_some (xs := xs) (i := i) (by omega)
   obtain ⟨b35, o37, hA36, hc38⟩ := hA.at_ _ _ he34
   refine WDi (NPt (NPb (NPt (NPt (NPb (NPt hN)))))) 2 A xs.length c 19 .i64 (i : Int) b35 o37 i 3 (by kernel_rfl) (by kernel_rfl) hA36 (by omega) (by omega) (o37 + i * 3) (by first | (simp; done) | omega) hS32 ?_
   refine WDp (NPt (NPb (NPt (NPt (NPb (NPt hN)))))) 4 21 (.slice B ys.length d) (by kernel_rfl) (fun _ => by kernel_rfl) hS32 ?_
   refine WDp (NPt (NPb (NPt (NPt (NPb (NPt hN)))))) 5 22 (.int .i64 (i : Int)) (by kernel_rfl) (fun _ => by kernel_rfl) hS32 ?_
   obtain ⟨e39, he40⟩ := get_some (xs := ys) (i := i) (by omega)
   obtain ⟨b41, o43, hA42, hc44⟩ := hB.at_ _ _ he40
   refine WDi (NPt (NPb (NPt (NPt (NPb (NPt hN)))))) 6 B ys.length d 23 .i64 (i : Int) b41 o43 i 3 (by kernel_rfl) (by kernel_rfl) hA42 (by omega) (by omega) (o43 + i * 3) (by first | (simp; done) | omega) hS32 ?_
   refine WDl (NPt (NPb (NPt (NPt (NPb (NPt hN)))))) 3 64 (.pointer (some ⟨b35, o37 + i * 3, none⟩)) (.agg #[.int .u32 e33.dip, .int .i64 e33.port, .int .i64 e33.weight]) 20 (by kernel_rfl) (by kernel_rfl) (fun _ hS_ => run_rdN (l := [.int .u32 e33.dip, .int .i64 e33.port, .int .i64 e33.weight]) rfl rfl (fun j u hu => by have hq_ := Fr.cell hS_ (hC31.fr.cell (hc38 j u hu) (by simp)) (by simp); simpa [Nat.add_assoc] using hq_)) hS32 ?_
   refine WDl (NPt (NPb (NPt (NPt (NPb (NPt hN)))))) 7 64 (.pointer (some ⟨b41, o43 + i * 3, none⟩)) (.agg #[.int .u32 e39.dip, .int .i64 e39.port, .int .i64 e39.weight]) 24 (by kernel_rfl) (by kernel_rfl) (fun _ hS_ => run_rdN (l := [.int .u32 e39.dip, .int .i64 e39.port, .int .i64 e39.weight]) rfl rfl (fun j u hu => by have hq_ := Fr.cell hS_ (hC31.fr.cell (hc44 j u hu) (by simp)) (by simp); simpa [Nat.add_assoc] using hq_)) hS32 ?_
   have hr45 : ∀ w_, Sem.run Tryd.prog (do eqGuard .neq 64 (Operand.tmp 20) (Operand.tmp 24) (.agg #[.int .u32 e33.dip, .int .i64 e33.port, .int .i64 e33.weight]) (.agg #[.int .u32 e39.dip, .int .i64 e39.port, .int .i64 e39.weight]); binOp .neq 64 (.agg #[.int .u32 e33.dip, .int .i64 e33.port, .int .i64 e33.weight]) (.agg #[.int .u32 e39.dip, .int .i64 e39.port, .int .i64 e39.weight])) w_ = .ok (.bool (!(e33.dip == e39.dip && (e33.port == e39.port && (e33.weight == e39.weight && true))))) w_ := fun w_ => (run_neq_S (by kernel_rfl))
   refine WD.semP (NPt (NPb (NPt (NPt (NPb (NPt hN)))))) 8 (do eqGuard .neq 64 (Operand.tmp 20) (Operand.tmp 24) (.agg #[.int .u32 e33.dip, .int .i64 e33.port, .int .i64 e33.weight]) (.agg #[.int .u32 e39.dip, .int .i64 e39.port, .int .i64 e39.weight]); binOp .neq 64 (.agg #[.int .u32 e33.dip, .int .i64 e33.port, .int .i64 e33.weight]) (.agg #[.int .u32 e39.dip, .int .i64 e39.port, .int .i64 e39.weight])) 25 (.bool (!(e33.dip == e39.dip && (e33.port == e39.port && (e33.weight == e39.weight && true))))) (by kernel_rfl) (by kernel_rfl) (fun _ _ => hr45 _) hS32 ?_
   refine WD.recast (show (.bool (!(e33.dip == e39.dip && (e33.port == e39.port && (e33.weight == e39.weight && true)))) : Value) = .bool (!decide (e33 = e39)) from by rw [endV_beq]) ?_
   refine WD.done (by kernel_rfl) ?_
   refine QXn (hK28 _ _ ?_)
   refine WCa 25 (!decide (e33 = e39)) rfl (fun t46b => ?_) (fun t46b => ?_)
   ·
    have t46 : (decide (e33 = e39)) = false := by first | (simpa only [Bool.not_eq_true', Bool.not_eq_false'] using t46b) | simpa using t46b
    refine WCt rfl ?_
    refine WCs (fun K47 hK48 => ?_)
    refine WCg (WLr 1 [(4, .bool false)] (fun _ => by kernel_rfl) (WLd rfl (QXn (hK48 _ _ ?_))))
    refine WC.ret ?_
    refine QXk ?_
    refine QXr ?_
    refine QXr ?_
    refine QXk ?_
    refine QXr ?_
    refine (hret _ _ _ rfl ?_).1
    clear hN hret hret' hK48 hK28 hK26 hK23 hK21 hK13 hK11 hK6 hK4 hK2
    exact ⟨congrArg (fun b_ => Ending.returned (Value.bool b_)) (eqs_miss he34 he40 (by assumption)).symm, hC31.fr⟩
   ·
    have t46 : (decide (e33 = e39)) = true := by first | (simpa only [Bool.not_eq_true', Bool.not_eq_false'] using t46b) | simpa using t46b
    refine WCf rfl (WC.skip ?_)
    refine QXb ?_
    refine QXn (hK26 _ _ ?_)
    refine WCg (WLr 2 [(16, .int .i64 (IntKind.i64.wrap ((i : Int) + 1))), (15, .int .i64 (i : Int))] (fun _ => by kernel_rfl) ?_)
    refine WLt (show (.int .i64 (IntKind.i64.wrap ((i : Int) + 1)) : Value) = .int .i64 ((i : Int) + 1) from by rw [wrap_in_i64 ((i : Int) + 1) (by omega) (by omega)]) ?_
    refine WLr 1 [(5, .int .i64 ((i : Int) + 1))] (fun _ => by kernel_rfl) ?_
    refine WLd rfl ?_
    refine QXn ?_
    have hC49 := hC31.pick [] [] rfl rfl
    refine fun a_ ha_ => hK15 _ _ _ ?_ ⟨i + 1, rfl, rfl, hC49, by omega, eqs_snoc hpre he34 he40 t46b⟩ a_ (ha_.weaken (sub_of ⟨rfl, rfl, rfl, trivial⟩))
    omega
  ·
   have t24 : (xs.length : Int) ≤ (i : Int) := by have q_ := of_decide_eq_false t24b; omega
   refine WCf rfl ?_
   refine WC.exit ?_
   refine QXe ?_
   refine QXe ?_
   refine QX.block_hit ?_
   refine QXn (hK11 _ _ ?_)
   refine WCs (fun K50 hK51 => ?_)
   refine WCg (WLr 1 [(4, .bool true)] (fun _ => by kernel_rfl) (WLd rfl (QXn (hK51 _ _ ?_))))
   refine WC.ret ?_
   refine (hret _ _ _ rfl ?_).1
   clear hN hret hret' hK51 hK23 hK21 hK13 hK11 hK6 hK4 hK2
   have hie_ : i = xs.length := by omega
   rw [List.take_of_length_le (by omega), List.take_of_length_le (by omega)] at hpre
   exact ⟨congrArg (fun b_ => Ending.returned (Value.bool b_)) (decide_eq_true hpre).symm, hC19.fr⟩

theorem sameEnds_n (A B : Option Addr) (n c n2 d : Nat) (xs ys : List EndV) (w : World) (hA : Rd w 3 cellsE A xs) (hB : Rd w 3 cellsE B ys) (h1 : xs.length = n) (h2 : ys.length = n2) (hlx : n ≤ 1099511627776) : Calls Tryd.prog 17 #[.slice A n c, .slice B n2 d] w fun e w' => e = .returned (.bool (decide (xs = ys))) ∧ Fr w w' [] := by subst h1 h2; exact sameEnds A B c d xs ys w hA hB hlx
def insideB (port first : Int) : Bool := decide (first ≤ port ∧ port - first < 8)
def wstep (l : Lease) (o : List Lease × Bool) (x : Lease) : List Lease × Bool :=
  let o1 := if !o.2 && !ltL x l then (o.1 ++ [l], true) else o
  if x.vip ≠ l.vip ∨ x.first ≠ l.first then (o1.1 ++ [x], o1.2) else o1
def markL : Lease := ⟨0, -77, 0, 0⟩
end Go.Proofs.YtfligklljkcbfaaDoor
