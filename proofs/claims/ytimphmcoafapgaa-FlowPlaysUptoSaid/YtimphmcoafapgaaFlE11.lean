/- Contracts of functions of the program, each proved by a walk through its code; conditions stand in the statements. -/
import Derived.Test.YtimphmcoafapgaaFlD11
namespace Go.Proofs.Ytimphmcoafapgaa
set_option linter.unusedSimpArgs false
set_option linter.unusedVariables false
set_option linter.unusedSectionVars false
open Go Go.RowKit Go.Tw
set_option linter.unusedVariables false
set_option maxRecDepth 20000
def cellsE (e : Ent) : List Value := [.int .i64 e.flow.proto, .int .u32 e.flow.src, .int .i64 e.flow.sport, .int .u32 e.flow.dst, .int .i64 e.flow.dport, .int .u32 e.dip, .int .i64 e.epoch, .bool e.trusted, .bool e.closing, .int .i64 e.last]
theorem cellsE_len (e : Ent) : (cellsE e).length = 10 := rfl
theorem cellsE_one (e : Ent) : (cellsE e).all Value.oneCell' = true := rfl
def idleB (e : Ent) (now : Int) : Bool := decide (now - e.last > if e.closing then 5 else if e.trusted then 60 else 10)
theorem perm_le1 {α : Type} {l m : List α} (h : l.Perm m) (hm : m.length ≤ 1) : l = m := by
  match m, hm with
  | [], _ => exact List.Perm.eq_nil h
  | [x], _ => exact List.perm_singleton.1 h
theorem idle_snoc {es : List Ent} {k : Nat} {e : Ent} {now : Int} (h : es[k]? = some e) : ((es.take (k + 1)).filter (idleB · now)).map (·.flow) = ((es.take k).filter (idleB · now)).map (·.flow) ++ if idleB e now then [e.flow] else [] := by
  obtain ⟨hk, rfl⟩ := List.getElem?_eq_some_iff.1 h
  rw [List.take_succ_eq_append_getElem hk, List.filter_append, List.map_append]
  by_cases hp : idleB es[k] now <;> simp [hp]
def entsOf (m : List (Flow × Ent)) : List Ent := m.map (·.2)
theorem entsOf_len (m : List (Flow × Ent)) : (entsOf m).length = m.length := by simp [entsOf]
theorem map_snoc2 {vis : List (Flow × Ent)} {p : Flow × Ent} : entsOf (vis ++ [p]) = entsOf vis ++ [p.2] := by simp [entsOf]
def outF (m : List (Flow × Ent)) (now : Int) : List Flow := ((entsOf m).filter (idleB · now)).map (·.flow)
theorem Len64_0  (w : World) : Calls Try.prog 59 #[.int .u64 0] w fun e w' => e = .returned (.int .i64 0) ∧ Fr w w' [] := by
  refine enterD (n := 25) Try.func59 rfl rfl (Nat.le_of_ble_eq_true rfl) ?_
  intro Q0 hN hret hret'
  have hC := Cx.start w
  refine WC.seq (fun K1 hK2 => ?_)
  refine WC.region ?_
  refine WL.runs 1 [(2, .int .i64 0)] (fun _ => by kernel_rfl) ?_
  refine WL.done rfl ?_
  refine QX.then_normal (hK2 _ _ ?_)
  refine WC.seq (fun K3 hK4 => ?_)
  refine WC.seq (fun K5 hK6 => ?_)
  refine WC.region ?_
  refine WL.runs 2 [(4, .bool false), (3, .int .u64 0)] (fun _ => by kernel_rfl) ?_
  refine WL.done rfl ?_
  refine QX.then_normal (hK6 _ _ ?_)
  refine WC.cond_false rfl ?_
  refine WC.skip ?_
  refine QX.then_normal (hK4 _ _ ?_)
  refine WC.seq (fun K7 hK8 => ?_)
  refine WC.seq (fun K9 hK10 => ?_)
  refine WC.region ?_
  refine WL.runs 2 [(8, .bool false), (7, .int .u64 0)] (fun _ => by kernel_rfl) ?_
  refine WL.done rfl ?_
  refine QX.then_normal (hK10 _ _ ?_)
  refine WC.cond_false rfl ?_
  refine WC.skip ?_
  refine QX.then_normal (hK8 _ _ ?_)
  refine WC.seq (fun K11 hK12 => ?_)
  refine WC.seq (fun K13 hK14 => ?_)
  refine WC.region ?_
  refine WL.runs 2 [(14, .bool false), (13, .int .u64 0)] (fun _ => by kernel_rfl) ?_
  refine WL.done rfl ?_
  refine QX.then_normal (hK14 _ _ ?_)
  refine WC.cond_false rfl ?_
  refine WC.skip ?_
  refine QX.then_normal (hK12 _ _ ?_)
  refine WC.seq (fun K15 hK16 => ?_)
  refine WC.region ?_
  refine WL.runs 3 [(21, .int .u8 (IntKind.u8.wrap (0))), (20, .int .u64 0), (19, .int .i64 0)] (fun _ => by kernel_rfl) ?_
  refine WL.recast (show (.int .u8 (IntKind.u8.wrap (0)) : Value) = .int .u8 0 from by rw [wrap_in_u8 ((0 : Int)) (by omega) (by omega)]) ?_
  refine WL.runs 2 [(23, .int .i64 (IntKind.i64.wrap (0))), (22, .int .u8 0)] (fun _ => by kernel_rfl) ?_
  refine WL.recast (show (.int .i64 (IntKind.i64.wrap (0)) : Value) = .int .i64 0 from by rw [wrap_in_i64 ((0 : Int)) (by omega) (by omega)]) ?_
  refine WL.runs 1 [(24, .int .i64 (IntKind.i64.wrap (0 + 0)))] (fun _ => by kernel_rfl) ?_
  refine WL.recast (show (.int .i64 (IntKind.i64.wrap (0 + 0)) : Value) = .int .i64 (0 + 0) from by rw [wrap_in_i64 (0 + 0) (by omega) (by omega)]) ?_
  refine WL.runs 1 [(2, .int .i64 (0 + 0))] (fun _ => by kernel_rfl) ?_
  refine WL.done rfl ?_
  refine QX.then_normal (hK16 _ _ ?_)
  refine WC.ret ?_
  refine (hret _ _ _ rfl ?_).1
  clear hN hret hret' hK16 hK14 hK12 hK10 hK8 hK6 hK4 hK2
  exact ⟨rfl, hC.fr⟩

theorem Len64_1  (w : World) : Calls Try.prog 59 #[.int .u64 1] w fun e w' => e = .returned (.int .i64 1) ∧ Fr w w' [] := by
  refine enterD (n := 25) Try.func59 rfl rfl (Nat.le_of_ble_eq_true rfl) ?_
  intro Q0 hN hret hret'
  have hC := Cx.start w
  refine WC.seq (fun K1 hK2 => ?_)
  refine WC.region ?_
  refine WL.runs 1 [(2, .int .i64 0)] (fun _ => by kernel_rfl) ?_
  refine WL.done rfl ?_
  refine QX.then_normal (hK2 _ _ ?_)
  refine WC.seq (fun K3 hK4 => ?_)
  refine WC.seq (fun K5 hK6 => ?_)
  refine WC.region ?_
  refine WL.runs 2 [(4, .bool false), (3, .int .u64 1)] (fun _ => by kernel_rfl) ?_
  refine WL.done rfl ?_
  refine QX.then_normal (hK6 _ _ ?_)
  refine WC.cond_false rfl ?_
  refine WC.skip ?_
  refine QX.then_normal (hK4 _ _ ?_)
  refine WC.seq (fun K7 hK8 => ?_)
  refine WC.seq (fun K9 hK10 => ?_)
  refine WC.region ?_
  refine WL.runs 2 [(8, .bool false), (7, .int .u64 1)] (fun _ => by kernel_rfl) ?_
  refine WL.done rfl ?_
  refine QX.then_normal (hK10 _ _ ?_)
  refine WC.cond_false rfl ?_
  refine WC.skip ?_
  refine QX.then_normal (hK8 _ _ ?_)
  refine WC.seq (fun K11 hK12 => ?_)
  refine WC.seq (fun K13 hK14 => ?_)
  refine WC.region ?_
  refine WL.runs 2 [(14, .bool false), (13, .int .u64 1)] (fun _ => by kernel_rfl) ?_
  refine WL.done rfl ?_
  refine QX.then_normal (hK14 _ _ ?_)
  refine WC.cond_false rfl ?_
  refine WC.skip ?_
  refine QX.then_normal (hK12 _ _ ?_)
  refine WC.seq (fun K15 hK16 => ?_)
  refine WC.region ?_
  refine WL.runs 3 [(21, .int .u8 (IntKind.u8.wrap (1))), (20, .int .u64 1), (19, .int .i64 0)] (fun _ => by kernel_rfl) ?_
  refine WL.recast (show (.int .u8 (IntKind.u8.wrap (1)) : Value) = .int .u8 1 from by rw [wrap_in_u8 ((1 : Int)) (by omega) (by omega)]) ?_
  refine WL.runs 2 [(23, .int .i64 (IntKind.i64.wrap (1))), (22, .int .u8 1)] (fun _ => by kernel_rfl) ?_
  refine WL.recast (show (.int .i64 (IntKind.i64.wrap (1)) : Value) = .int .i64 1 from by rw [wrap_in_i64 ((1 : Int)) (by omega) (by omega)]) ?_
  refine WL.runs 1 [(24, .int .i64 (IntKind.i64.wrap (0 + 1)))] (fun _ => by kernel_rfl) ?_
  refine WL.recast (show (.int .i64 (IntKind.i64.wrap (0 + 1)) : Value) = .int .i64 (0 + 1) from by rw [wrap_in_i64 (0 + 1) (by omega) (by omega)]) ?_
  refine WL.runs 1 [(2, .int .i64 (0 + 1))] (fun _ => by kernel_rfl) ?_
  refine WL.done rfl ?_
  refine QX.then_normal (hK16 _ _ ?_)
  refine WC.ret ?_
  refine (hret _ _ _ rfl ?_).1
  clear hN hret hret' hK16 hK14 hK12 hK10 hK8 hK6 hK4 hK2
  exact ⟨rfl, hC.fr⟩

theorem Len_0  (w : World) : Calls Try.prog 46 #[.int .u64 0] w fun e w' => e = .returned (.int .i64 0) ∧ Fr w w' [] := by
  refine enterD (n := 8) Try.func46 rfl rfl (Nat.le_of_ble_eq_true rfl) ?_
  intro Q0 hN hret hret'
  have hC := Cx.start w
  refine WC.seq (fun K1 hK2 => ?_)
  refine WC.region ?_
  refine WL.runs 1 [(2, .int .i64 0)] (fun _ => by kernel_rfl) ?_
  refine WL.done rfl ?_
  refine QX.then_normal (hK2 _ _ ?_)
  refine WC.seq (fun K3 hK4 => ?_)
  refine WC.cond_false rfl ?_
  refine WC.skip ?_
  refine QX.then_normal (hK4 _ _ ?_)
  refine WC.seq (fun K5 hK6 => ?_)
  refine WC.region ?_
  refine WL.runs 1 [(6, .int .u64 0)] (fun _ => by kernel_rfl) ?_
  refine WL.call rfl rfl rfl rfl rfl (by kernel_rfl) (Len64_0 w) ?_
  rintro _ w8 ⟨rfl, hF7⟩
  refine ⟨_, rfl, ?_⟩
  have hC9 := hC.call hF7
  refine WL.runs 1 [(2, .int .i64 0)] (fun _ => by kernel_rfl) ?_
  refine WL.done rfl ?_
  refine QX.then_normal (hK6 _ _ ?_)
  refine WC.ret ?_
  refine (hret _ _ _ rfl ?_).1
  clear hN hret hret' hK6 hK4 hK2
  exact ⟨rfl, hC9.fr⟩

theorem Len_1  (w : World) : Calls Try.prog 46 #[.int .u64 1] w fun e w' => e = .returned (.int .i64 1) ∧ Fr w w' [] := by
  refine enterD (n := 8) Try.func46 rfl rfl (Nat.le_of_ble_eq_true rfl) ?_
  intro Q0 hN hret hret'
  have hC := Cx.start w
  refine WC.seq (fun K1 hK2 => ?_)
  refine WC.region ?_
  refine WL.runs 1 [(2, .int .i64 0)] (fun _ => by kernel_rfl) ?_
  refine WL.done rfl ?_
  refine QX.then_normal (hK2 _ _ ?_)
  refine WC.seq (fun K3 hK4 => ?_)
  refine WC.cond_false rfl ?_
  refine WC.skip ?_
  refine QX.then_normal (hK4 _ _ ?_)
  refine WC.seq (fun K5 hK6 => ?_)
  refine WC.region ?_
  refine WL.runs 1 [(6, .int .u64 1)] (fun _ => by kernel_rfl) ?_
  refine WL.call rfl rfl rfl rfl rfl (by kernel_rfl) (Len64_1 w) ?_
  rintro _ w8 ⟨rfl, hF7⟩
  refine ⟨_, rfl, ?_⟩
  have hC9 := hC.call hF7
  refine WL.runs 1 [(2, .int .i64 1)] (fun _ => by kernel_rfl) ?_
  refine WL.done rfl ?_
  refine QX.then_normal (hK6 _ _ ?_)
  refine WC.ret ?_
  refine (hret _ _ _ rfl ?_).1
  clear hN hret hret' hK6 hK4 hK2
  exact ⟨rfl, hC9.fr⟩

theorem ins_0 (A : Option Addr) (c : Nat) (w : World) : Calls Try.prog 50 #[.slice A 0 c, .int .i64 0, .int .i64 0, .func (.func 37) #[] #[]] w fun e w' => e = .returned (.tuple #[]) ∧ Fr w w' [] := by
  refine enterD (n := 53) Try.func50 rfl rfl (Nat.le_of_ble_eq_true rfl) ?_
  intro Q0 hN hret hret'
  have hC := Cx.start w
  refine WC.seq (fun K1 hK2 => ?_)
  refine WC.region ?_
  refine WL.runs 2 [(11, .int .i64 (IntKind.i64.wrap (0 + 1))), (10, .int .i64 0)] (fun _ => by kernel_rfl) ?_
  refine WL.recast (show (.int .i64 (IntKind.i64.wrap (0 + 1)) : Value) = .int .i64 (0 + 1) from by rw [wrap_in_i64 (0 + 1) (by omega) (by omega)]) ?_
  refine WL.runs 1 [(8, .int .i64 (0 + 1))] (fun _ => by kernel_rfl) ?_
  refine WL.done rfl ?_
  refine QX.then_normal (hK2 _ _ ?_)
  refine WC.block ?_
  refine WC.loop (fun m_ E_ w_ => ∃ (k : Nat), m_ = k ∧ E_ = [(0, .slice A 0 c), (1, .int .i64 0), (2, .int .i64 0), (3, .func (.func 37) #[] #[]), (8, .int .i64 1), (10, .int .i64 0), (11, .int .i64 (0 + 1))] ∧ Cx w [] w_ [] [] ∧ (True)) ⟨_, _, ⟨0, rfl, rfl, hC, trivial⟩, sub_of ⟨rfl, rfl, rfl, rfl, rfl, rfl, rfl, trivial⟩⟩ (fun m6 E_ w7 K3 hK4 hI5 => ?_)
  obtain ⟨k, rfl, rfl, hC8, hinvm6⟩ := hI5
  refine WC.seq (fun K9 hK10 => ?_)
  refine WC.seq (fun K11 hK12 => ?_)
  refine WC.region ?_
  refine WL.runs 3 [(14, .bool false), (13, .int .i64 0), (12, .int .i64 1)] (fun _ => by kernel_rfl) ?_
  refine WL.done rfl ?_
  refine QX.then_normal (hK12 _ _ ?_)
  refine WC.cond_false rfl ?_
  refine WC.exit ?_
  refine QX.then_exit ?_
  refine QX.then_exit ?_
  refine QX.block_hit ?_
  refine (hret _ _ _ rfl ?_).2
  clear hN hret hret' hK12 hK10 hK2
  exact ⟨rfl, hC8.fr⟩

theorem ins_1 (A : Option Addr) (c : Nat) (w : World) : Calls Try.prog 50 #[.slice A 1 c, .int .i64 0, .int .i64 1, .func (.func 37) #[] #[]] w fun e w' => e = .returned (.tuple #[]) ∧ Fr w w' [] := by
  refine enterD (n := 53) Try.func50 rfl rfl (Nat.le_of_ble_eq_true rfl) ?_
  intro Q0 hN hret hret'
  have hC := Cx.start w
  refine WC.seq (fun K1 hK2 => ?_)
  refine WC.region ?_
  refine WL.runs 2 [(11, .int .i64 (IntKind.i64.wrap (0 + 1))), (10, .int .i64 0)] (fun _ => by kernel_rfl) ?_
  refine WL.recast (show (.int .i64 (IntKind.i64.wrap (0 + 1)) : Value) = .int .i64 (0 + 1) from by rw [wrap_in_i64 (0 + 1) (by omega) (by omega)]) ?_
  refine WL.runs 1 [(8, .int .i64 (0 + 1))] (fun _ => by kernel_rfl) ?_
  refine WL.done rfl ?_
  refine QX.then_normal (hK2 _ _ ?_)
  refine WC.block ?_
  refine WC.loop (fun m_ E_ w_ => ∃ (k : Nat), m_ = k ∧ E_ = [(0, .slice A 1 c), (1, .int .i64 0), (2, .int .i64 1), (3, .func (.func 37) #[] #[]), (8, .int .i64 1), (10, .int .i64 0), (11, .int .i64 (0 + 1))] ∧ Cx w [] w_ [] [] ∧ (True)) ⟨_, _, ⟨0, rfl, rfl, hC, trivial⟩, sub_of ⟨rfl, rfl, rfl, rfl, rfl, rfl, rfl, trivial⟩⟩ (fun m6 E_ w7 K3 hK4 hI5 => ?_)
  obtain ⟨k, rfl, rfl, hC8, hinvm6⟩ := hI5
  refine WC.seq (fun K9 hK10 => ?_)
  refine WC.seq (fun K11 hK12 => ?_)
  refine WC.region ?_
  refine WL.runs 3 [(14, .bool false), (13, .int .i64 1), (12, .int .i64 1)] (fun _ => by kernel_rfl) ?_
  refine WL.done rfl ?_
  refine QX.then_normal (hK12 _ _ ?_)
  refine WC.cond_false rfl ?_
  refine WC.exit ?_
  refine QX.then_exit ?_
  refine QX.then_exit ?_
  refine QX.block_hit ?_
  refine (hret _ _ _ rfl ?_).2
  clear hN hret hret' hK12 hK10 hK2
  exact ⟨rfl, hC8.fr⟩

theorem pdq_0 (A : Option Addr) (c : Nat) (w : World) : Calls Try.prog 45 #[.slice A 0 c, .int .i64 0, .int .i64 0, .int .i64 0, .func (.func 37) #[] #[]] w fun e w' => e = .returned (.tuple #[]) ∧ Fr w w' [] := by
  refine enterD (n := 148) Try.func45 rfl rfl (Nat.le_of_ble_eq_true rfl) ?_
  intro Q0 hN hret hret'
  have hC := Cx.start w
  refine WC.seq (fun K1 hK2 => ?_)
  refine WC.region ?_
  refine WL.runs 1 [(10, .bool true)] (fun _ => by kernel_rfl) ?_
  refine WL.done rfl ?_
  refine QX.then_normal (hK2 _ _ ?_)
  refine WC.seq (fun K3 hK4 => ?_)
  refine WC.region ?_
  refine WL.runs 1 [(11, .bool true)] (fun _ => by kernel_rfl) ?_
  refine WL.done rfl ?_
  refine QX.then_normal (hK4 _ _ ?_)
  refine WC.block ?_
  refine WC.loop (fun m_ E_ w_ => ∃ (k : Nat), m_ = k ∧ E_ = [(0, .slice A 0 c), (1, .int .i64 0), (2, .int .i64 0), (3, .int .i64 0), (4, .func (.func 37) #[] #[]), (10, .bool true), (11, .bool true)] ∧ Cx w [] w_ [] [] ∧ (True)) ⟨_, _, ⟨0, rfl, rfl, hC, trivial⟩, sub_of ⟨rfl, rfl, rfl, rfl, rfl, rfl, rfl, trivial⟩⟩ (fun m8 E_ w9 K5 hK6 hI7 => ?_)
  obtain ⟨k, rfl, rfl, hC10, hinvm8⟩ := hI7
  refine WC.block ?_
  refine WC.seq (fun K11 hK12 => ?_)
  refine WC.region ?_
  refine WL.runs 3 [(23, .int .i64 (IntKind.i64.wrap (0 - 0))), (22, .int .i64 0), (21, .int .i64 0)] (fun _ => by kernel_rfl) ?_
  refine WL.recast (show (.int .i64 (IntKind.i64.wrap (0 - 0)) : Value) = .int .i64 (0 - 0) from by rw [wrap_in_i64 (0 - 0) (by omega) (by omega)]) ?_
  refine WL.runs 1 [(12, .int .i64 (0 - 0))] (fun _ => by kernel_rfl) ?_
  refine WL.done rfl ?_
  refine QX.then_normal (hK12 _ _ ?_)
  refine WC.seq (fun K13 hK14 => ?_)
  refine WC.seq (fun K15 hK16 => ?_)
  refine WC.region ?_
  refine WL.runs 2 [(25, .bool (decide ((0 - 0) ≤ 12))), (24, .int .i64 (0 - 0))] (fun _ => by kernel_rfl) ?_
  refine WL.done rfl ?_
  refine QX.then_normal (hK16 _ _ ?_)
  refine WC.know 25 (.bool (decide ((0 - 0) ≤ 12))) (.bool true) rfl (congrArg Value.bool (by decide)) ?_
  refine WC.cond_true rfl ?_
  refine WC.seq (fun K17 hK18 => ?_)
  refine WC.region ?_
  refine WL.runs 4 [(29, .func (.func 37) #[] #[]), (28, .int .i64 0), (27, .int .i64 0), (26, .slice A 0 c)] (fun _ => by kernel_rfl) ?_
  refine WL.call rfl rfl rfl rfl rfl (by kernel_rfl) (ins_0 A c w9) ?_
  rintro _ w20 ⟨rfl, hF19⟩
  refine ⟨_, rfl, ?_⟩
  have hC21 := hC10.call hF19
  refine WL.done rfl ?_
  refine QX.then_normal (hK18 _ _ ?_)
  refine WC.ret ?_
  refine QX.then_ret ?_
  refine QX.block_ret ?_
  refine QX.then_ret ?_
  refine QX.block_ret ?_
  refine (hret _ _ _ rfl ?_).1
  clear hN hret hret' hK18 hK16 hK14 hK12 hK4 hK2
  exact ⟨rfl, hC21.fr⟩

theorem pdq_1 (A : Option Addr) (c : Nat) (w : World) : Calls Try.prog 45 #[.slice A 1 c, .int .i64 0, .int .i64 1, .int .i64 1, .func (.func 37) #[] #[]] w fun e w' => e = .returned (.tuple #[]) ∧ Fr w w' [] := by
  refine enterD (n := 148) Try.func45 rfl rfl (Nat.le_of_ble_eq_true rfl) ?_
  intro Q0 hN hret hret'
  have hC := Cx.start w
  refine WC.seq (fun K1 hK2 => ?_)
  refine WC.region ?_
  refine WL.runs 1 [(10, .bool true)] (fun _ => by kernel_rfl) ?_
  refine WL.done rfl ?_
  refine QX.then_normal (hK2 _ _ ?_)
  refine WC.seq (fun K3 hK4 => ?_)
  refine WC.region ?_
  refine WL.runs 1 [(11, .bool true)] (fun _ => by kernel_rfl) ?_
  refine WL.done rfl ?_
  refine QX.then_normal (hK4 _ _ ?_)
  refine WC.block ?_
  refine WC.loop (fun m_ E_ w_ => ∃ (k : Nat), m_ = k ∧ E_ = [(0, .slice A 1 c), (1, .int .i64 0), (2, .int .i64 1), (3, .int .i64 1), (4, .func (.func 37) #[] #[]), (10, .bool true), (11, .bool true)] ∧ Cx w [] w_ [] [] ∧ (True)) ⟨_, _, ⟨0, rfl, rfl, hC, trivial⟩, sub_of ⟨rfl, rfl, rfl, rfl, rfl, rfl, rfl, trivial⟩⟩ (fun m8 E_ w9 K5 hK6 hI7 => ?_)
  obtain ⟨k, rfl, rfl, hC10, hinvm8⟩ := hI7
  refine WC.block ?_
  refine WC.seq (fun K11 hK12 => ?_)
  refine WC.region ?_
  refine WL.runs 3 [(23, .int .i64 (IntKind.i64.wrap (1 - 0))), (22, .int .i64 0), (21, .int .i64 1)] (fun _ => by kernel_rfl) ?_
  refine WL.recast (show (.int .i64 (IntKind.i64.wrap (1 - 0)) : Value) = .int .i64 (1 - 0) from by rw [wrap_in_i64 (1 - 0) (by omega) (by omega)]) ?_
  refine WL.runs 1 [(12, .int .i64 (1 - 0))] (fun _ => by kernel_rfl) ?_
  refine WL.done rfl ?_
  refine QX.then_normal (hK12 _ _ ?_)
  refine WC.seq (fun K13 hK14 => ?_)
  refine WC.seq (fun K15 hK16 => ?_)
  refine WC.region ?_
  refine WL.runs 2 [(25, .bool (decide ((1 - 0) ≤ 12))), (24, .int .i64 (1 - 0))] (fun _ => by kernel_rfl) ?_
  refine WL.done rfl ?_
  refine QX.then_normal (hK16 _ _ ?_)
  refine WC.know 25 (.bool (decide ((1 - 0) ≤ 12))) (.bool true) rfl (congrArg Value.bool (by decide)) ?_
  refine WC.cond_true rfl ?_
  refine WC.seq (fun K17 hK18 => ?_)
  refine WC.region ?_
  refine WL.runs 4 [(29, .func (.func 37) #[] #[]), (28, .int .i64 1), (27, .int .i64 0), (26, .slice A 1 c)] (fun _ => by kernel_rfl) ?_
  refine WL.call rfl rfl rfl rfl rfl (by kernel_rfl) (ins_1 A c w9) ?_
  rintro _ w20 ⟨rfl, hF19⟩
  refine ⟨_, rfl, ?_⟩
  have hC21 := hC10.call hF19
  refine WL.done rfl ?_
  refine QX.then_normal (hK18 _ _ ?_)
  refine WC.ret ?_
  refine QX.then_ret ?_
  refine QX.block_ret ?_
  refine QX.then_ret ?_
  refine QX.block_ret ?_
  refine (hret _ _ _ rfl ?_).1
  clear hN hret hret' hK18 hK16 hK14 hK12 hK4 hK2
  exact ⟨rfl, hC21.fr⟩

theorem sort_0 (A : Option Addr) (c : Nat) (w : World) : Calls Try.prog 36 #[.slice A 0 c, .func (.func 37) #[] #[]] w fun e w' => e = .returned (.tuple #[]) ∧ Fr w w' [] := by
  refine enterD (n := 14) Try.func36 rfl rfl (Nat.le_of_ble_eq_true rfl) ?_
  intro Q0 hN hret hret'
  have hC := Cx.start w
  refine WC.seq (fun K1 hK2 => ?_)
  refine WC.region ?_
  refine WL.runs 3 [(4, .int .i64 0), (6, .int .i64 0), (5, .slice A 0 c)] (fun _ => by kernel_rfl) ?_
  refine WL.done rfl ?_
  refine QX.then_normal (hK2 _ _ ?_)
  refine WC.region ?_
  refine WL.runs 4 [(10, .int .u64 (IntKind.u64.wrap (0))), (9, .int .i64 0), (8, .int .i64 0), (7, .slice A 0 c)] (fun _ => by kernel_rfl) ?_
  refine WL.recast (show (.int .u64 (IntKind.u64.wrap (0)) : Value) = .int .u64 0 from by rw [wrap_in_u64 ((0 : Int)) (by omega) (by omega)]) ?_
  refine WL.call rfl rfl rfl rfl rfl (by kernel_rfl) (Len_0 w) ?_
  rintro _ w4 ⟨rfl, hF3⟩
  refine ⟨_, rfl, ?_⟩
  have hC5 := hC.call hF3
  refine WL.runs 1 [(12, .func (.func 37) #[] #[])] (fun _ => by kernel_rfl) ?_
  refine WL.call rfl rfl rfl rfl rfl (by kernel_rfl) (pdq_0 A c w4) ?_
  rintro _ w7 ⟨rfl, hF6⟩
  refine ⟨_, rfl, ?_⟩
  have hC8 := hC5.call hF6
  refine WL.done rfl ?_
  refine (hret _ _ _ rfl ?_).2
  clear hN hret hret' hK2
  exact ⟨rfl, hC8.fr⟩

theorem sort_1 (A : Option Addr) (c : Nat) (w : World) : Calls Try.prog 36 #[.slice A 1 c, .func (.func 37) #[] #[]] w fun e w' => e = .returned (.tuple #[]) ∧ Fr w w' [] := by
  refine enterD (n := 14) Try.func36 rfl rfl (Nat.le_of_ble_eq_true rfl) ?_
  intro Q0 hN hret hret'
  have hC := Cx.start w
  refine WC.seq (fun K1 hK2 => ?_)
  refine WC.region ?_
  refine WL.runs 3 [(4, .int .i64 1), (6, .int .i64 1), (5, .slice A 1 c)] (fun _ => by kernel_rfl) ?_
  refine WL.done rfl ?_
  refine QX.then_normal (hK2 _ _ ?_)
  refine WC.region ?_
  refine WL.runs 4 [(10, .int .u64 (IntKind.u64.wrap (1))), (9, .int .i64 1), (8, .int .i64 1), (7, .slice A 1 c)] (fun _ => by kernel_rfl) ?_
  refine WL.recast (show (.int .u64 (IntKind.u64.wrap (1)) : Value) = .int .u64 1 from by rw [wrap_in_u64 ((1 : Int)) (by omega) (by omega)]) ?_
  refine WL.call rfl rfl rfl rfl rfl (by kernel_rfl) (Len_1 w) ?_
  rintro _ w4 ⟨rfl, hF3⟩
  refine ⟨_, rfl, ?_⟩
  have hC5 := hC.call hF3
  refine WL.runs 1 [(12, .func (.func 37) #[] #[])] (fun _ => by kernel_rfl) ?_
  refine WL.call rfl rfl rfl rfl rfl (by kernel_rfl) (pdq_1 A c w4) ?_
  rintro _ w7 ⟨rfl, hF6⟩
  refine ⟨_, rfl, ?_⟩
  have hC8 := hC5.call hF6
  refine WL.done rfl ?_
  refine (hret _ _ _ rfl ?_).2
  clear hN hret hret' hK2
  exact ⟨rfl, hC8.fr⟩

theorem sort_le1 (A : Option Addr) (n c : Nat) (hn : n ≤ 1) (w : World) : Calls Try.prog 36 #[.slice A n c, .func (.func 37) #[] #[]] w fun e w' => e = .returned (.tuple #[]) ∧ Fr w w' [] := by
  have h : n = 0 ∨ n = 1 := by omega
  rcases h with rfl | rfl
  · exact sort_0 A c w
  · exact sort_1 A c w
end Go.Proofs.Ytimphmcoafapgaa
