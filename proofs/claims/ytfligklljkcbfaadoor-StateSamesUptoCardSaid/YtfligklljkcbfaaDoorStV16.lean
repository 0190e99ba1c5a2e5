/- Contracts of functions of the program, each proved by a walk through its code; conditions stand in the statements. -/
import Derived.Test.YtfligklljkcbfaaDoorStT16
namespace Go.Proofs.YtfligklljkcbfaaDoor
set_option linter.unusedSimpArgs false
set_option linter.unusedVariables false
set_option linter.unusedSectionVars false
open Go Go.RowKit Go.Tw
set_option linter.unusedVariables false
set_option maxRecDepth 20000
theorem cfg_ext {A B : CfgV} : A = B ↔ A.epoch = B.epoch ∧ A.now = B.now ∧ A.svcs = B.svcs ∧ A.snats = B.snats ∧ A.sick = B.sick ∧ A.leases = B.leases := by
  obtain ⟨a, b, c, d, e, f⟩ := A; obtain ⟨a', b', c', d', e', f'⟩ := B; simp
theorem svc_ext {a b : SvcV} : a = b ↔ (a.vip = b.vip ∧ a.proto = b.proto ∧ a.port = b.port) ∧ a.ends = b.ends := by
  obtain ⟨x, y, z, e⟩ := a; obtain ⟨x', y', z', e'⟩ := b; simp [and_assoc]
theorem like_kS {a b : Svc} (h1 : (cmp3 (kS a) (kS b) == 0) = true) (h2 : a.v.ends = b.v.ends) : a.v = b.v := by
  have e := cmp3_eq.1 (by simpa using h1)
  exact svc_ext.2 ⟨k3_eq.1 e, h2⟩
theorem like_no1 {a b : Svc} (h1 : (cmp3 (kS a) (kS b) == 0) = false) : ¬ a.v = b.v := fun e => by
  have : cmp3 (kS a) (kS b) = 0 := cmp3_eq.2 (by unfold kS; rw [e])
  rw [this] at h1; cases h1
section
variable {xs ys : List Svc} {i : Nat} {a b : Svc}
theorem eqv_snoc (h : (xs.take i).map (·.v) = (ys.take i).map (·.v)) (ha : xs[i]? = some a) (hb : ys[i]? = some b) (he : a.v = b.v) : (xs.take (i + 1)).map (·.v) = (ys.take (i + 1)).map (·.v) := by
  obtain ⟨hi, h1⟩ := List.getElem?_eq_some_iff.1 ha
  obtain ⟨hj, h2⟩ := List.getElem?_eq_some_iff.1 hb
  rw [List.take_succ_eq_append_getElem hi, List.take_succ_eq_append_getElem hj, List.map_append, List.map_append, h, h1, h2]; simp [he]
theorem eqv_miss (ha : xs[i]? = some a) (hb : ys[i]? = some b) (he : ¬ a.v = b.v) : ¬ xs.map (·.v) = ys.map (·.v) := fun e => by
  have h1 : (xs.map (·.v))[i]? = some a.v := by rw [List.getElem?_map, ha]; rfl
  rw [e, List.getElem?_map, hb] at h1
  exact he (Option.some.inj h1).symm
theorem eqv_len (h : xs.length ≠ ys.length) : ¬ xs.map (·.v) = ys.map (·.v) := fun e => h (by have := congrArg List.length e; simpa using this)
theorem eqv_end (h : (xs.take i).map (·.v) = (ys.take i).map (·.v)) (h1 : xs.length ≤ i) (h2 : ys.length ≤ i) : xs.map (·.v) = ys.map (·.v) := by rwa [List.take_of_length_le h1, List.take_of_length_le h2] at h
end
theorem dec_of {p q : Prop} [Decidable p] [Decidable q] (h : p ↔ q) : decide p = decide q := by
  by_cases hp : p
  · rw [decide_eq_true hp, decide_eq_true (h.1 hp)]
  · rw [decide_eq_false hp, decide_eq_false (fun e => hp (h.2 e))]
theorem eqN (A B : Option Addr) (c d : Nat) (xs ys : List SnatV) (w : World) (hA : Rd w 2 cellsN A xs) (hB : Rd w 2 cellsN B ys) (hlx : xs.length ≤ 1099511627776) : Calls Tryd.prog 33 #[.slice A xs.length c, .slice B ys.length d] w fun e w' => e = .returned (.bool (decide (xs = ys))) ∧ Fr w w' [] := by
 refine enterD (n := 26) Tryd.func33 rfl rfl (Nat.le_of_ble_eq_true rfl) ?_
 intro Q0 hN hret hret'
 have hC := Cx.start w
 refine WCs (fun K1 hK2 => ?_)
 refine WCg (WLr 1 [(4, .bool false)] (fun _ => by kernel_rfl) (WLd rfl (QXn (hK2 _ _ ?_))))
 refine WCs (fun K3 hK4 => ?_)
 refine WCs (fun K5 hK6 => ?_)
 refine WCg (WLr 5 [(10, .bool ((xs.length : Int) != (ys.length : Int))), (9, .int .i64 (ys.length : Int)), (8, .slice B ys.length d), (7, .int .i64 (xs.length : Int)), (6, .slice A xs.length c)] (fun _ => by kernel_rfl) (WLd rfl (QXn (hK6 _ _ ?_))))
 refine WCa 10 ((xs.length : Int) != (ys.length : Int)) rfl (fun t7b => ?_) (fun t7b => ?_)
 ·
  have t7 : (xs.length : Int) ≠ (ys.length : Int) := by simpa using t7b
  refine WCt rfl ?_
  refine WCs (fun K8 hK9 => ?_)
  refine WCg (WLr 1 [(4, .bool false)] (fun _ => by kernel_rfl) (WLd rfl (QXn (hK9 _ _ ?_))))
  refine WC.ret ?_
  refine QXr ?_
  refine (hret _ _ _ rfl ?_).1
  exact ⟨congrArg (fun b_ => Ending.returned (Value.bool b_)) (decide_eq_false (fun e_ => by subst e_; omega)).symm, hC.fr⟩
 ·
  have t7 : (xs.length : Int) = (ys.length : Int) := by simpa using t7b
  refine WCf rfl (WC.skip (QXn (hK4 _ _ ?_)))
  refine WCs (fun K10 hK11 => ?_)
  refine WCs (fun K12 hK13 => ?_)
  refine WCg (WLr 3 [(13, .int .i64 0), (12, .int .i64 (xs.length : Int)), (11, .slice A xs.length c)] (fun _ => by kernel_rfl) (WLd rfl (QXn (hK13 _ _ ?_))))
  refine WC.block ?_
  refine WC.loop (fun m_ E_ w_ => ∃ (i : Nat), m_ = xs.length - i ∧ E_ = [(0, .slice A xs.length c), (1, .slice B ys.length d), (11, .slice A xs.length c), (12, .int .i64 (xs.length : Int)), (13, .int .i64 (i : Int))] ∧ Cx w [] w_ [] [] ∧ (i ≤ xs.length ∧ xs.take i = ys.take i)) ⟨_, _, ⟨0, rfl, rfl, hC, Nat.zero_le _, rfl⟩, sub_of ⟨rfl, rfl, rfl, rfl, rfl, trivial⟩⟩ (fun m17 E_ w18 K14 hK15 hI16 => ?_)
  obtain ⟨i, rfl, rfl, hC19, hi, hpre⟩ := hI16
  refine WCs (fun K20 hK21 => ?_)
  refine WCg (WLr 1 [(14, .bool (decide ((i : Int) < (xs.length : Int))))] (fun _ => by kernel_rfl) (WLd rfl (QXn (hK21 _ _ ?_))))
  refine WCs (fun K22 hK23 => ?_)
  refine WCa 14 (decide ((i : Int) < (xs.length : Int))) rfl (fun t24b => ?_) (fun t24b => ?_)
  ·
   have t24 : (i : Int) < (xs.length : Int) := by have q_ := of_decide_eq_true t24b; omega
   refine WCt rfl ?_
   refine WC.skip ?_
   refine QXn (hK23 _ _ ?_)
   refine WCs (fun K25 hK26 => ?_)
   refine WC.block ?_
   refine WCs (fun K27 hK28 => ?_)
   refine WCg (WLr 2 [(5, .int .i64 (i : Int)), (15, .int .i64 (i : Int))] (fun _ => by kernel_rfl) (WLd rfl (QXn (hK28 _ _ ?_))))
   refine WCs (fun K29 hK30 => ?_)
   refine WC.drawC hC19 [] (by kernel_rfl) (fun w31 hF32 hC33 hS34 => ?_)
   refine WDp (NPt (NPb (NPt (NPt (NPb (NPt hN)))))) 0 16 (.slice A xs.length c) (by kernel_rfl) (fun _ => by kernel_rfl) hS34 ?_
   refine WDp (NPt (NPb (NPt (NPt (NPb (NPt hN)))))) 1 17 (.int .i64 (i : Int)) (by kernel_rfl) (fun _ => by kernel_rfl) hS34 ?_
   obtain ⟨e35, he36⟩ := get_some (xs := xs) (i := i) (by omega)
   obtain ⟨b37, o39, hA38, hc40⟩ := hA.at_ _ _ he36
   refine WDi (NPt (NPb (NPt (NPt (NPb (NPt hN)))))) 2 A xs.length c 18 .i64 (i : Int) b37 o39 i 2 (by kernel_rfl) (by kernel_rfl) hA38 (by omega) (by omega) (o39 + i * 2) (by first | (simp; done) | omega) hS34 ?_
   refine WDp (NPt (NPb (NPt (NPt (NPb (NPt hN)))))) 4 20 (.slice B ys.length d) (by kernel_rfl) (fun _ => by kernel_rfl) hS34 ?_
   refine WDp (NPt (NPb (NPt (NPt (NPb (NPt hN)))))) 5 21 (.int .i64 (i : Int)) (by kernel_rfl) (fun _ => by kernel_rfl) hS34 ?_
   obtain ⟨e41, he42⟩ := get_some (xs := ys) (i := i) (by omega)
   obtain ⟨b43, o45, hA44, hc46⟩ := hB.at_ _ _ he42
   refine WDi (NPt (NPb (NPt (NPt (NPb (NPt hN)))))) 6 B ys.length d 22 .i64 (i : Int) b43 o45 i 2 (by kernel_rfl) (by kernel_rfl) hA44 (by omega) (by omega) (o45 + i * 2) (by first | (simp; done) | omega) hS34 ?_
   refine WDl (NPt (NPb (NPt (NPt (NPb (NPt hN)))))) 3 54 (.pointer (some ⟨b37, o39 + i * 2, none⟩)) (.agg #[.int .u32 e35.dip, .int .u32 e35.vip]) 19 (by kernel_rfl) (by kernel_rfl) (fun _ hS_ => run_rdN (l := [.int .u32 e35.dip, .int .u32 e35.vip]) rfl rfl (fun j u hu => by have hq_ := Fr.cell hS_ (hC33.fr.cell (hc40 j u hu) (by simp)) (by simp); simpa [Nat.add_assoc] using hq_)) hS34 ?_
   refine WDl (NPt (NPb (NPt (NPt (NPb (NPt hN)))))) 7 54 (.pointer (some ⟨b43, o45 + i * 2, none⟩)) (.agg #[.int .u32 e41.dip, .int .u32 e41.vip]) 23 (by kernel_rfl) (by kernel_rfl) (fun _ hS_ => run_rdN (l := [.int .u32 e41.dip, .int .u32 e41.vip]) rfl rfl (fun j u hu => by have hq_ := Fr.cell hS_ (hC33.fr.cell (hc46 j u hu) (by simp)) (by simp); simpa [Nat.add_assoc] using hq_)) hS34 ?_
   have hr47 : ∀ w_, Sem.run Tryd.prog (do eqGuard .neq 54 (Operand.tmp 19) (Operand.tmp 23) (.agg #[.int .u32 e35.dip, .int .u32 e35.vip]) (.agg #[.int .u32 e41.dip, .int .u32 e41.vip]); binOp .neq 54 (.agg #[.int .u32 e35.dip, .int .u32 e35.vip]) (.agg #[.int .u32 e41.dip, .int .u32 e41.vip])) w_ = .ok (.bool (!(e35.dip == e41.dip && (e35.vip == e41.vip && true)))) w_ := fun w_ => (run_neq_S (by kernel_rfl))
   refine WD.semP (NPt (NPb (NPt (NPt (NPb (NPt hN)))))) 8 (do eqGuard .neq 54 (Operand.tmp 19) (Operand.tmp 23) (.agg #[.int .u32 e35.dip, .int .u32 e35.vip]) (.agg #[.int .u32 e41.dip, .int .u32 e41.vip]); binOp .neq 54 (.agg #[.int .u32 e35.dip, .int .u32 e35.vip]) (.agg #[.int .u32 e41.dip, .int .u32 e41.vip])) 24 (.bool (!(e35.dip == e41.dip && (e35.vip == e41.vip && true)))) (by kernel_rfl) (by kernel_rfl) (fun _ _ => hr47 _) hS34 ?_
   refine WD.recast (show (.bool (!(e35.dip == e41.dip && (e35.vip == e41.vip && true))) : Value) = .bool (!decide (e35 = e41)) from by rw [snat_beq]) ?_
   refine WD.done (by kernel_rfl) ?_
   refine QXn (hK30 _ _ ?_)
   refine WCa 24 (!decide (e35 = e41)) rfl (fun t48b => ?_) (fun t48b => ?_)
   ·
    have t48 : (decide (e35 = e41)) = false := by first | (simpa only [Bool.not_eq_true', Bool.not_eq_false'] using t48b) | simpa using t48b
    refine WCt rfl ?_
    refine WCs (fun K49 hK50 => ?_)
    refine WCg (WLr 1 [(4, .bool false)] (fun _ => by kernel_rfl) (WLd rfl (QXn (hK50 _ _ ?_))))
    refine WC.ret ?_
    refine QXk ?_
    refine QXr ?_
    refine QXr ?_
    refine QXk ?_
    refine QXr ?_
    refine (hret _ _ _ rfl ?_).1
    clear hN hret hret' hK50 hK30 hK28 hK26 hK23 hK21 hK13 hK11 hK6 hK4 hK2
    exact ⟨congrArg (fun b_ => Ending.returned (Value.bool b_)) (eqs_miss he36 he42 (by assumption)).symm, hC33.fr⟩
   ·
    have t48 : (decide (e35 = e41)) = true := by first | (simpa only [Bool.not_eq_true', Bool.not_eq_false'] using t48b) | simpa using t48b
    refine WCf rfl (WC.skip ?_)
    refine QXb ?_
    refine QXn (hK26 _ _ ?_)
    refine WCg (WLr 1 [(25, .int .i64 (IntKind.i64.wrap ((i : Int) + 1)))] (fun _ => by kernel_rfl) ?_)
    refine WLt (show (.int .i64 (IntKind.i64.wrap ((i : Int) + 1)) : Value) = .int .i64 ((i : Int) + 1) from by rw [wrap_in_i64 ((i : Int) + 1) (by omega) (by omega)]) ?_
    refine WLr 1 [(13, .int .i64 ((i : Int) + 1))] (fun _ => by kernel_rfl) ?_
    refine WLd rfl ?_
    refine QXn ?_
    have hC51 := hC33.pick [] [] rfl rfl
    refine fun a_ ha_ => hK15 _ _ _ ?_ ⟨i + 1, rfl, rfl, hC51, by omega, eqs_snoc hpre he36 he42 t48b⟩ a_ (ha_.weaken (sub_of ⟨rfl, rfl, rfl, rfl, rfl, trivial⟩))
    omega
  ·
   have t24 : (xs.length : Int) ≤ (i : Int) := by have q_ := of_decide_eq_false t24b; omega
   refine WCf rfl ?_
   refine WC.exit ?_
   refine QXe ?_
   refine QXe ?_
   refine QX.block_hit ?_
   refine QXn (hK11 _ _ ?_)
   refine WCs (fun K52 hK53 => ?_)
   refine WCg (WLr 1 [(4, .bool true)] (fun _ => by kernel_rfl) (WLd rfl (QXn (hK53 _ _ ?_))))
   refine WC.ret ?_
   refine (hret _ _ _ rfl ?_).1
   clear hN hret hret' hK53 hK23 hK21 hK13 hK11 hK6 hK4 hK2
   have hie_ : i = xs.length := by omega
   rw [List.take_of_length_le (by omega), List.take_of_length_le (by omega)] at hpre
   exact ⟨congrArg (fun b_ => Ending.returned (Value.bool b_)) (decide_eq_true hpre).symm, hC19.fr⟩

theorem eqN_n (A B : Option Addr) (n c n2 d : Nat) (xs ys : List SnatV) (w : World) (hA : Rd w 2 cellsN A xs) (hB : Rd w 2 cellsN B ys) (h1 : xs.length = n) (h2 : ys.length = n2) (hlx : n ≤ 1099511627776) : Calls Tryd.prog 33 #[.slice A n c, .slice B n2 d] w fun e w' => e = .returned (.bool (decide (xs = ys))) ∧ Fr w w' [] := by subst h1 h2; exact eqN A B c d xs ys w hA hB hlx
theorem eqA (A B : Option Addr) (c d : Nat) (xs ys : List Int) (w : World) (hA : Rd w 1 (Go.Tw.encI .u32) A xs) (hB : Rd w 1 (Go.Tw.encI .u32) B ys) (hlx : xs.length ≤ 1099511627776) : Calls Tryd.prog 34 #[.slice A xs.length c, .slice B ys.length d] w fun e w' => e = .returned (.bool (decide (xs = ys))) ∧ Fr w w' [] := by
 refine enterD (n := 26) Tryd.func34 rfl rfl (Nat.le_of_ble_eq_true rfl) ?_
 intro Q0 hN hret hret'
 have hC := Cx.start w
 refine WCs (fun K1 hK2 => ?_)
 refine WCg (WLr 1 [(4, .bool false)] (fun _ => by kernel_rfl) (WLd rfl (QXn (hK2 _ _ ?_))))
 refine WCs (fun K3 hK4 => ?_)
 refine WCs (fun K5 hK6 => ?_)
 refine WCg (WLr 5 [(10, .bool ((xs.length : Int) != (ys.length : Int))), (9, .int .i64 (ys.length : Int)), (8, .slice B ys.length d), (7, .int .i64 (xs.length : Int)), (6, .slice A xs.length c)] (fun _ => by kernel_rfl) (WLd rfl (QXn (hK6 _ _ ?_))))
 refine WCa 10 ((xs.length : Int) != (ys.length : Int)) rfl (fun t7b => ?_) (fun t7b => ?_)
 ·
  have t7 : (xs.length : Int) ≠ (ys.length : Int) := by simpa using t7b
  refine WCt rfl ?_
  refine WCs (fun K8 hK9 => ?_)
  refine WCg (WLr 1 [(4, .bool false)] (fun _ => by kernel_rfl) (WLd rfl (QXn (hK9 _ _ ?_))))
  refine WC.ret ?_
  refine QXr ?_
  refine (hret _ _ _ rfl ?_).1
  exact ⟨congrArg (fun b_ => Ending.returned (Value.bool b_)) (decide_eq_false (fun e_ => by subst e_; omega)).symm, hC.fr⟩
 ·
  have t7 : (xs.length : Int) = (ys.length : Int) := by simpa using t7b
  refine WCf rfl (WC.skip (QXn (hK4 _ _ ?_)))
  refine WCs (fun K10 hK11 => ?_)
  refine WCs (fun K12 hK13 => ?_)
  refine WCg (WLr 3 [(13, .int .i64 0), (12, .int .i64 (xs.length : Int)), (11, .slice A xs.length c)] (fun _ => by kernel_rfl) (WLd rfl (QXn (hK13 _ _ ?_))))
  refine WC.block ?_
  refine WC.loop (fun m_ E_ w_ => ∃ (i : Nat), m_ = xs.length - i ∧ E_ = [(0, .slice A xs.length c), (1, .slice B ys.length d), (11, .slice A xs.length c), (12, .int .i64 (xs.length : Int)), (13, .int .i64 (i : Int))] ∧ Cx w [] w_ [] [] ∧ (i ≤ xs.length ∧ xs.take i = ys.take i)) ⟨_, _, ⟨0, rfl, rfl, hC, Nat.zero_le _, rfl⟩, sub_of ⟨rfl, rfl, rfl, rfl, rfl, trivial⟩⟩ (fun m17 E_ w18 K14 hK15 hI16 => ?_)
  obtain ⟨i, rfl, rfl, hC19, hi, hpre⟩ := hI16
  refine WCs (fun K20 hK21 => ?_)
  refine WCg (WLr 1 [(14, .bool (decide ((i : Int) < (xs.length : Int))))] (fun _ => by kernel_rfl) (WLd rfl (QXn (hK21 _ _ ?_))))
  refine WCs (fun K22 hK23 => ?_)
  refine WCa 14 (decide ((i : Int) < (xs.length : Int))) rfl (fun t24b => ?_) (fun t24b => ?_)
  ·
   have t24 : (i : Int) < (xs.length : Int) := by have q_ := of_decide_eq_true t24b; omega
   refine WCt rfl ?_
   refine WC.skip ?_
   refine QXn (hK23 _ _ ?_)
   refine WCs (fun K25 hK26 => ?_)
   refine WC.block ?_
   refine WCs (fun K27 hK28 => ?_)
   refine WCg (WLr 2 [(5, .int .i64 (i : Int)), (15, .int .i64 (i : Int))] (fun _ => by kernel_rfl) (WLd rfl (QXn (hK28 _ _ ?_))))
   refine WCs (fun K29 hK30 => ?_)
   refine WC.drawC hC19 [] (by kernel_rfl) (fun w31 hF32 hC33 hS34 => ?_)
   refine WDp (NPt (NPb (NPt (NPt (NPb (NPt hN)))))) 0 16 (.slice A xs.length c) (by kernel_rfl) (fun _ => by kernel_rfl) hS34 ?_
   refine WDp (NPt (NPb (NPt (NPt (NPb (NPt hN)))))) 1 17 (.int .i64 (i : Int)) (by kernel_rfl) (fun _ => by kernel_rfl) hS34 ?_
   obtain ⟨e35, he36⟩ := get_some (xs := xs) (i := i) (by omega)
   obtain ⟨b37, o39, hA38, hc40⟩ := hA.at_ _ _ he36
   refine WDi (NPt (NPb (NPt (NPt (NPb (NPt hN)))))) 2 A xs.length c 18 .i64 (i : Int) b37 o39 i 1 (by kernel_rfl) (by kernel_rfl) hA38 (by omega) (by omega) (o39 + i) (by first | (simp; done) | omega) hS34 ?_
   refine WDp (NPt (NPb (NPt (NPt (NPb (NPt hN)))))) 4 20 (.slice B ys.length d) (by kernel_rfl) (fun _ => by kernel_rfl) hS34 ?_
   refine WDp (NPt (NPb (NPt (NPt (NPb (NPt hN)))))) 5 21 (.int .i64 (i : Int)) (by kernel_rfl) (fun _ => by kernel_rfl) hS34 ?_
   obtain ⟨e41, he42⟩ := get_some (xs := ys) (i := i) (by omega)
   obtain ⟨b43, o45, hA44, hc46⟩ := hB.at_ _ _ he42
   refine WDi (NPt (NPb (NPt (NPt (NPb (NPt hN)))))) 6 B ys.length d 22 .i64 (i : Int) b43 o45 i 1 (by kernel_rfl) (by kernel_rfl) hA44 (by omega) (by omega) (o45 + i) (by first | (simp; done) | omega) hS34 ?_
   refine WDl (NPt (NPb (NPt (NPt (NPb (NPt hN)))))) 3 41 (.pointer (some ⟨b37, o39 + i, none⟩)) (.int .u32 e35) 19 (by kernel_rfl) (by kernel_rfl) (fun _ hS_ => run_load1 rfl (by simpa [Nat.add_assoc] using Fr.cell hS_ (hC33.fr.cell (hc40 0 _ rfl) (by simp)) (by simp))) hS34 ?_
   refine WDl (NPt (NPb (NPt (NPt (NPb (NPt hN)))))) 7 41 (.pointer (some ⟨b43, o45 + i, none⟩)) (.int .u32 e41) 23 (by kernel_rfl) (by kernel_rfl) (fun _ hS_ => run_load1 rfl (by simpa [Nat.add_assoc] using Fr.cell hS_ (hC33.fr.cell (hc46 0 _ rfl) (by simp)) (by simp))) hS34 ?_
   refine WDp (NPt (NPb (NPt (NPt (NPb (NPt hN)))))) 8 24 (.bool (e35 != e41)) (by kernel_rfl) (fun _ => by kernel_rfl) hS34 ?_
   refine WD.recast (show (.bool (e35 != e41) : Value) = .bool (!decide (e35 = e41)) from by rw [int_bne]) ?_
   refine WD.done (by kernel_rfl) ?_
   refine QXn (hK30 _ _ ?_)
   refine WCa 24 (!decide (e35 = e41)) rfl (fun t47b => ?_) (fun t47b => ?_)
   ·
    have t47 : (decide (e35 = e41)) = false := by first | (simpa only [Bool.not_eq_true', Bool.not_eq_false'] using t47b) | simpa using t47b
    refine WCt rfl ?_
    refine WCs (fun K48 hK49 => ?_)
    refine WCg (WLr 1 [(4, .bool false)] (fun _ => by kernel_rfl) (WLd rfl (QXn (hK49 _ _ ?_))))
    refine WC.ret ?_
    refine QXk ?_
    refine QXr ?_
    refine QXr ?_
    refine QXk ?_
    refine QXr ?_
    refine (hret _ _ _ rfl ?_).1
    clear hN hret hret' hK49 hK30 hK28 hK26 hK23 hK21 hK13 hK11 hK6 hK4 hK2
    exact ⟨congrArg (fun b_ => Ending.returned (Value.bool b_)) (eqs_miss he36 he42 (by assumption)).symm, hC33.fr⟩
   ·
    have t47 : (decide (e35 = e41)) = true := by first | (simpa only [Bool.not_eq_true', Bool.not_eq_false'] using t47b) | simpa using t47b
    refine WCf rfl (WC.skip ?_)
    refine QXb ?_
    refine QXn (hK26 _ _ ?_)
    refine WCg (WLr 1 [(25, .int .i64 (IntKind.i64.wrap ((i : Int) + 1)))] (fun _ => by kernel_rfl) ?_)
    refine WLt (show (.int .i64 (IntKind.i64.wrap ((i : Int) + 1)) : Value) = .int .i64 ((i : Int) + 1) from by rw [wrap_in_i64 ((i : Int) + 1) (by omega) (by omega)]) ?_
    refine WLr 1 [(13, .int .i64 ((i : Int) + 1))] (fun _ => by kernel_rfl) ?_
    refine WLd rfl ?_
    refine QXn ?_
    have hC50 := hC33.pick [] [] rfl rfl
    refine fun a_ ha_ => hK15 _ _ _ ?_ ⟨i + 1, rfl, rfl, hC50, by omega, eqs_snoc hpre he36 he42 t47b⟩ a_ (ha_.weaken (sub_of ⟨rfl, rfl, rfl, rfl, rfl, trivial⟩))
    omega
  ·
   have t24 : (xs.length : Int) ≤ (i : Int) := by have q_ := of_decide_eq_false t24b; omega
   refine WCf rfl ?_
   refine WC.exit ?_
   refine QXe ?_
   refine QXe ?_
   refine QX.block_hit ?_
   refine QXn (hK11 _ _ ?_)
   refine WCs (fun K51 hK52 => ?_)
   refine WCg (WLr 1 [(4, .bool true)] (fun _ => by kernel_rfl) (WLd rfl (QXn (hK52 _ _ ?_))))
   refine WC.ret ?_
   refine (hret _ _ _ rfl ?_).1
   clear hN hret hret' hK52 hK23 hK21 hK13 hK11 hK6 hK4 hK2
   have hie_ : i = xs.length := by omega
   rw [List.take_of_length_le (by omega), List.take_of_length_le (by omega)] at hpre
   exact ⟨congrArg (fun b_ => Ending.returned (Value.bool b_)) (decide_eq_true hpre).symm, hC19.fr⟩

theorem eqA_n (A B : Option Addr) (n c n2 d : Nat) (xs ys : List Int) (w : World) (hA : Rd w 1 (Go.Tw.encI .u32) A xs) (hB : Rd w 1 (Go.Tw.encI .u32) B ys) (h1 : xs.length = n) (h2 : ys.length = n2) (hlx : n ≤ 1099511627776) : Calls Tryd.prog 34 #[.slice A n c, .slice B n2 d] w fun e w' => e = .returned (.bool (decide (xs = ys))) ∧ Fr w w' [] := by subst h1 h2; exact eqA A B c d xs ys w hA hB hlx
theorem eqL (A B : Option Addr) (c d : Nat) (xs ys : List Lease) (w : World) (hA : Rd w 4 encL A xs) (hB : Rd w 4 encL B ys) (hlx : xs.length ≤ 1099511627776) : Calls Tryd.prog 35 #[.slice A xs.length c, .slice B ys.length d] w fun e w' => e = .returned (.bool (decide (xs = ys))) ∧ Fr w w' [] := by
 refine enterD (n := 26) Tryd.func35 rfl rfl (Nat.le_of_ble_eq_true rfl) ?_
 intro Q0 hN hret hret'
 have hC := Cx.start w
 refine WCs (fun K1 hK2 => ?_)
 refine WCg (WLr 1 [(4, .bool false)] (fun _ => by kernel_rfl) (WLd rfl (QXn (hK2 _ _ ?_))))
 refine WCs (fun K3 hK4 => ?_)
 refine WCs (fun K5 hK6 => ?_)
 refine WCg (WLr 5 [(10, .bool ((xs.length : Int) != (ys.length : Int))), (9, .int .i64 (ys.length : Int)), (8, .slice B ys.length d), (7, .int .i64 (xs.length : Int)), (6, .slice A xs.length c)] (fun _ => by kernel_rfl) (WLd rfl (QXn (hK6 _ _ ?_))))
 refine WCa 10 ((xs.length : Int) != (ys.length : Int)) rfl (fun t7b => ?_) (fun t7b => ?_)
 ·
  have t7 : (xs.length : Int) ≠ (ys.length : Int) := by simpa using t7b
  refine WCt rfl ?_
  refine WCs (fun K8 hK9 => ?_)
  refine WCg (WLr 1 [(4, .bool false)] (fun _ => by kernel_rfl) (WLd rfl (QXn (hK9 _ _ ?_))))
  refine WC.ret ?_
  refine QXr ?_
  refine (hret _ _ _ rfl ?_).1
  exact ⟨congrArg (fun b_ => Ending.returned (Value.bool b_)) (decide_eq_false (fun e_ => by subst e_; omega)).symm, hC.fr⟩
 ·
  have t7 : (xs.length : Int) = (ys.length : Int) := by simpa using t7b
  refine WCf rfl (WC.skip (QXn (hK4 _ _ ?_)))
  refine WCs (fun K10 hK11 => ?_)
  refine WCs (fun K12 hK13 => ?_)
  refine WCg (WLr 3 [(13, .int .i64 0), (12, .int .i64 (xs.length : Int)), (11, .slice A xs.length c)] (fun _ => by kernel_rfl) (WLd rfl (QXn (hK13 _ _ ?_))))
  refine WC.block ?_
  refine WC.loop (fun m_ E_ w_ => ∃ (i : Nat), m_ = xs.length - i ∧ E_ = [(0, .slice A xs.length c), (1, .slice B ys.length d), (11, .slice A xs.length c), (12, .int .i64 (xs.length : Int)), (13, .int .i64 (i : Int))] ∧ Cx w [] w_ [] [] ∧ (i ≤ xs.length ∧ xs.take i = ys.take i)) ⟨_, _, ⟨0, rfl, rfl, hC, Nat.zero_le _, rfl⟩, sub_of ⟨rfl, rfl, rfl, rfl, rfl, trivial⟩⟩ (fun m17 E_ w18 K14 hK15 hI16 => ?_)
  obtain ⟨i, rfl, rfl, hC19, hi, hpre⟩ := hI16
  refine WCs (fun K20 hK21 => ?_)
  refine WCg (WLr 1 [(14, .bool (decide ((i : Int) < (xs.length : Int))))] (fun _ => by kernel_rfl) (WLd rfl (QXn (hK21 _ _ ?_))))
  refine WCs (fun K22 hK23 => ?_)
  refine WCa 14 (decide ((i : Int) < (xs.length : Int))) rfl (fun t24b => ?_) (fun t24b => ?_)
  ·
   have t24 : (i : Int) < (xs.length : Int) := by have q_ := of_decide_eq_true t24b; omega
   refine WCt rfl ?_
   refine WC.skip ?_
   refine QXn (hK23 _ _ ?_)
   refine WCs (fun K25 hK26 => ?_)
   refine WC.block ?_
   refine WCs (fun K27 hK28 => ?_)
   refine WCg (WLr 2 [(5, .int .i64 (i : Int)), (15, .int .i64 (i : Int))] (fun _ => by kernel_rfl) (WLd rfl (QXn (hK28 _ _ ?_))))
   refine WCs (fun K29 hK30 => ?_)
   refine WC.drawC hC19 [] (by kernel_rfl) (fun w31 hF32 hC33 hS34 => ?_)
   refine WDp (NPt (NPb (NPt (NPt (NPb (NPt hN)))))) 0 16 (.slice A xs.length c) (by kernel_rfl) (fun _ => by kernel_rfl) hS34 ?_
   refine WDp (NPt (NPb (NPt (NPt (NPb (NPt hN)))))) 1 17 (.int .i64 (i : Int)) (by kernel_rfl) (fun _ => by kernel_rfl) hS34 ?_
   obtain ⟨e35, he36⟩ := get_some (xs := xs) (i := i) (by omega)
   obtain ⟨b37, o39, hA38, hc40⟩ := hA.at_ _ _ he36
   refine WDi (NPt (NPb (NPt (NPt (NPb (NPt hN)))))) 2 A xs.length c 18 .i64 (i : Int) b37 o39 i 4 (by kernel_rfl) (by kernel_rfl) hA38 (by omega) (by omega) (o39 + i * 4) (by first | (simp; done) | omega) hS34 ?_
   refine WDp (NPt (NPb (NPt (NPt (NPb (NPt hN)))))) 4 20 (.slice B ys.length d) (by kernel_rfl) (fun _ => by kernel_rfl) hS34 ?_
   refine WDp (NPt (NPb (NPt (NPt (NPb (NPt hN)))))) 5 21 (.int .i64 (i : Int)) (by kernel_rfl) (fun _ => by kernel_rfl) hS34 ?_
   obtain ⟨e41, he42⟩ := get_some (xs := ys) (i := i) (by omega)
   obtain ⟨b43, o45, hA44, hc46⟩ := hB.at_ _ _ he42
   refine WDi (NPt (NPb (NPt (NPt (NPb (NPt hN)))))) 6 B ys.length d 22 .i64 (i : Int) b43 o45 i 4 (by kernel_rfl) (by kernel_rfl) hA44 (by omega) (by omega) (o45 + i * 4) (by first | (simp; done) | omega) hS34 ?_
   refine WDl (NPt (NPb (NPt (NPt (NPb (NPt hN)))))) 3 43 (.pointer (some ⟨b37, o39 + i * 4, none⟩)) (.agg #[.int .u32 e35.vip, .int .i64 e35.first, .int .u32 e35.dip, .int .i64 e35.exp]) 19 (by kernel_rfl) (by kernel_rfl) (fun _ hS_ => run_rdN (l := [.int .u32 e35.vip, .int .i64 e35.first, .int .u32 e35.dip, .int .i64 e35.exp]) rfl rfl (fun j u hu => by have hq_ := Fr.cell hS_ (hC33.fr.cell (hc40 j u hu) (by simp)) (by simp); simpa [Nat.add_assoc] using hq_)) hS34 ?_
   refine WDl (NPt (NPb (NPt (NPt (NPb (NPt hN)))))) 7 43 (.pointer (some ⟨b43, o45 + i * 4, none⟩)) (.agg #[.int .u32 e41.vip, .int .i64 e41.first, .int .u32 e41.dip, .int .i64 e41.exp]) 23 (by kernel_rfl) (by kernel_rfl) (fun _ hS_ => run_rdN (l := [.int .u32 e41.vip, .int .i64 e41.first, .int .u32 e41.dip, .int .i64 e41.exp]) rfl rfl (fun j u hu => by have hq_ := Fr.cell hS_ (hC33.fr.cell (hc46 j u hu) (by simp)) (by simp); simpa [Nat.add_assoc] using hq_)) hS34 ?_
   have hr47 : ∀ w_, Sem.run Tryd.prog (do eqGuard .neq 43 (Operand.tmp 19) (Operand.tmp 23) (.agg #[.int .u32 e35.vip, .int .i64 e35.first, .int .u32 e35.dip, .int .i64 e35.exp]) (.agg #[.int .u32 e41.vip, .int .i64 e41.first, .int .u32 e41.dip, .int .i64 e41.exp]); binOp .neq 43 (.agg #[.int .u32 e35.vip, .int .i64 e35.first, .int .u32 e35.dip, .int .i64 e35.exp]) (.agg #[.int .u32 e41.vip, .int .i64 e41.first, .int .u32 e41.dip, .int .i64 e41.exp])) w_ = .ok (.bool (!(e35.vip == e41.vip && (e35.first == e41.first && (e35.dip == e41.dip && (e35.exp == e41.exp && true)))))) w_ := fun w_ => (run_neq_S (by kernel_rfl))
   refine WD.semP (NPt (NPb (NPt (NPt (NPb (NPt hN)))))) 8 (do eqGuard .neq 43 (Operand.tmp 19) (Operand.tmp 23) (.agg #[.int .u32 e35.vip, .int .i64 e35.first, .int .u32 e35.dip, .int .i64 e35.exp]) (.agg #[.int .u32 e41.vip, .int .i64 e41.first, .int .u32 e41.dip, .int .i64 e41.exp]); binOp .neq 43 (.agg #[.int .u32 e35.vip, .int .i64 e35.first, .int .u32 e35.dip, .int .i64 e35.exp]) (.agg #[.int .u32 e41.vip, .int .i64 e41.first, .int .u32 e41.dip, .int .i64 e41.exp])) 24 (.bool (!(e35.vip == e41.vip && (e35.first == e41.first && (e35.dip == e41.dip && (e35.exp == e41.exp && true)))))) (by kernel_rfl) (by kernel_rfl) (fun _ _ => hr47 _) hS34 ?_
   refine WD.recast (show (.bool (!(e35.vip == e41.vip && (e35.first == e41.first && (e35.dip == e41.dip && (e35.exp == e41.exp && true))))) : Value) = .bool (!decide (e35 = e41)) from by rw [lease_beq]) ?_
   refine WD.done (by kernel_rfl) ?_
   refine QXn (hK30 _ _ ?_)
   refine WCa 24 (!decide (e35 = e41)) rfl (fun t48b => ?_) (fun t48b => ?_)
   ·
    have t48 : (decide (e35 = e41)) = false := by first | (simpa only [Bool.not_eq_true', Bool.not_eq_false'] using t48b) | simpa using t48b
    refine WCt rfl ?_
    refine WCs (fun K49 hK50 => ?_)
    refine WCg (WLr 1 [(4, .bool false)] (fun _ => by kernel_rfl) (WLd rfl (QXn (hK50 _ _ ?_))))
    refine WC.ret ?_
    refine QXk ?_
    refine QXr ?_
    refine QXr ?_
    refine QXk ?_
    refine QXr ?_
    refine (hret _ _ _ rfl ?_).1
    clear hN hret hret' hK50 hK30 hK28 hK26 hK23 hK21 hK13 hK11 hK6 hK4 hK2
    exact ⟨congrArg (fun b_ => Ending.returned (Value.bool b_)) (eqs_miss he36 he42 (by assumption)).symm, hC33.fr⟩
   ·
    have t48 : (decide (e35 = e41)) = true := by first | (simpa only [Bool.not_eq_true', Bool.not_eq_false'] using t48b) | simpa using t48b
    refine WCf rfl (WC.skip ?_)
    refine QXb ?_
    refine QXn (hK26 _ _ ?_)
    refine WCg (WLr 1 [(25, .int .i64 (IntKind.i64.wrap ((i : Int) + 1)))] (fun _ => by kernel_rfl) ?_)
    refine WLt (show (.int .i64 (IntKind.i64.wrap ((i : Int) + 1)) : Value) = .int .i64 ((i : Int) + 1) from by rw [wrap_in_i64 ((i : Int) + 1) (by omega) (by omega)]) ?_
    refine WLr 1 [(13, .int .i64 ((i : Int) + 1))] (fun _ => by kernel_rfl) ?_
    refine WLd rfl ?_
    refine QXn ?_
    have hC51 := hC33.pick [] [] rfl rfl
    refine fun a_ ha_ => hK15 _ _ _ ?_ ⟨i + 1, rfl, rfl, hC51, by omega, eqs_snoc hpre he36 he42 t48b⟩ a_ (ha_.weaken (sub_of ⟨rfl, rfl, rfl, rfl, rfl, trivial⟩))
    omega
  ·
   have t24 : (xs.length : Int) ≤ (i : Int) := by have q_ := of_decide_eq_false t24b; omega
   refine WCf rfl ?_
   refine WC.exit ?_
   refine QXe ?_
   refine QXe ?_
   refine QX.block_hit ?_
   refine QXn (hK11 _ _ ?_)
   refine WCs (fun K52 hK53 => ?_)
   refine WCg (WLr 1 [(4, .bool true)] (fun _ => by kernel_rfl) (WLd rfl (QXn (hK53 _ _ ?_))))
   refine WC.ret ?_
   refine (hret _ _ _ rfl ?_).1
   clear hN hret hret' hK53 hK23 hK21 hK13 hK11 hK6 hK4 hK2
   have hie_ : i = xs.length := by omega
   rw [List.take_of_length_le (by omega), List.take_of_length_le (by omega)] at hpre
   exact ⟨congrArg (fun b_ => Ending.returned (Value.bool b_)) (decide_eq_true hpre).symm, hC19.fr⟩

theorem eqL_n (A B : Option Addr) (n c n2 d : Nat) (xs ys : List Lease) (w : World) (hA : Rd w 4 encL A xs) (hB : Rd w 4 encL B ys) (h1 : xs.length = n) (h2 : ys.length = n2) (hlx : n ≤ 1099511627776) : Calls Tryd.prog 35 #[.slice A n c, .slice B n2 d] w fun e w' => e = .returned (.bool (decide (xs = ys))) ∧ Fr w w' [] := by subst h1 h2; exact eqL A B c d xs ys w hA hB hlx
theorem eqEnds (A B : Option Addr) (c d : Nat) (xs ys : List EndV) (w : World) (hA : Rd w 3 cellsE A xs) (hB : Rd w 3 cellsE B ys) (hlx : xs.length ≤ 1099511627776) : Calls Tryd.prog 31 #[.slice A xs.length c, .slice B ys.length d] w fun e w' => e = .returned (.bool (decide (xs = ys))) ∧ Fr w w' [] := by
 refine enterD (n := 26) Tryd.func31 rfl rfl (Nat.le_of_ble_eq_true rfl) ?_
 intro Q0 hN hret hret'
 have hC := Cx.start w
 refine WCs (fun K1 hK2 => ?_)
 refine WCg (WLr 1 [(4, .bool false)] (fun _ => by kernel_rfl) (WLd rfl (QXn (hK2 _ _ ?_))))
 refine WCs (fun K3 hK4 => ?_)
 refine WCs (fun K5 hK6 => ?_)
 refine WCg (WLr 5 [(10, .bool ((xs.length : Int) != (ys.length : Int))), (9, .int .i64 (ys.length : Int)), (8, .slice B ys.length d), (7, .int .i64 (xs.length : Int)), (6, .slice A xs.length c)] (fun _ => by kernel_rfl) (WLd rfl (QXn (hK6 _ _ ?_))))
 refine WCa 10 ((xs.length : Int) != (ys.length : Int)) rfl (fun t7b => ?_) (fun t7b => ?_)
 ·
  have t7 : (xs.length : Int) ≠ (ys.length : Int) := by simpa using t7b
  refine WCt rfl ?_
  refine WCs (fun K8 hK9 => ?_)
  refine WCg (WLr 1 [(4, .bool false)] (fun _ => by kernel_rfl) (WLd rfl (QXn (hK9 _ _ ?_))))
  refine WC.ret ?_
  refine QXr ?_
  refine (hret _ _ _ rfl ?_).1
  exact ⟨congrArg (fun b_ => Ending.returned (Value.bool b_)) (decide_eq_false (fun e_ => by subst e_; omega)).symm, hC.fr⟩
 ·
  have t7 : (xs.length : Int) = (ys.length : Int) := by simpa using t7b
  refine WCf rfl (WC.skip (QXn (hK4 _ _ ?_)))
  refine WCs (fun K10 hK11 => ?_)
  refine WCs (fun K12 hK13 => ?_)
  refine WCg (WLr 3 [(13, .int .i64 0), (12, .int .i64 (xs.length : Int)), (11, .slice A xs.length c)] (fun _ => by kernel_rfl) (WLd rfl (QXn (hK13 _ _ ?_))))
  refine WC.block ?_
  refine WC.loop (fun m_ E_ w_ => ∃ (i : Nat), m_ = xs.length - i ∧ E_ = [(0, .slice A xs.length c), (1, .slice B ys.length d), (11, .slice A xs.length c), (12, .int .i64 (xs.length : Int)), (13, .int .i64 (i : Int))] ∧ Cx w [] w_ [] [] ∧ (i ≤ xs.length ∧ xs.take i = ys.take i)) ⟨_, _, ⟨0, rfl, rfl, hC, Nat.zero_le _, rfl⟩, sub_of ⟨rfl, rfl, rfl, rfl, rfl, trivial⟩⟩ (fun m17 E_ w18 K14 hK15 hI16 => ?_)
  obtain ⟨i, rfl, rfl, hC19, hi, hpre⟩ := hI16
  refine WCs (fun K20 hK21 => ?_)
  refine WCg (WLr 1 [(14, .bool (decide ((i : Int) < (xs.length : Int))))] (fun _ => by kernel_rfl) (WLd rfl (QXn (hK21 _ _ ?_))))
  refine WCs (fun K22 hK23 => ?_)
  refine WCa 14 (decide ((i : Int) < (xs.length : Int))) rfl (fun t24b => ?_) (fun t24b => ?_)
  ·
   have t24 : (i : Int) < (xs.length : Int) := by have q_ := of_decide_eq_true t24b; omega
   refine WCt rfl ?_
   refine WC.skip ?_
   refine QXn (hK23 _ _ ?_)
   refine WCs (fun K25 hK26 => ?_)
   refine WC.block ?_
   refine WCs (fun K27 hK28 => ?_)
   refine WCg (WLr 2 [(5, .int .i64 (i : Int)), (15, .int .i64 (i : Int))] (fun _ => by kernel_rfl) (WLd rfl (QXn (hK28 _ _ ?_))))
   refine WCs (fun K29 hK30 => ?_)
   refine WC.drawC hC19 [] (by kernel_rfl) (fun w31 hF32 hC33 hS34 => ?_)
   refine WDp (NPt (NPb (NPt (NPt (NPb (NPt hN)))))) 0 16 (.slice A xs.length c) (by kernel_rfl) (fun _ => by kernel_rfl) hS34 ?_
   refine WDp (NPt (NPb (NPt (NPt (NPb (NPt hN)))))) 1 17 (.int .i64 (i : Int)) (by kernel_rfl) (fun _ => by kernel_rfl) hS34 ?_
   obtain ⟨e35, he36⟩ := get_some (xs := xs) (i := i) (by omega)
   obtain ⟨b37, o39, hA38, hc40⟩ := hA.at_ _ _ he36
   refine WDi (NPt (NPb (NPt (NPt (NPb (NPt hN)))))) 2 A xs.length c 18 .i64 (i : Int) b37 o39 i 3 (by kernel_rfl) (by kernel_rfl) hA38 (by omega) (by omega) (o39 + i * 3) (by first | (simp; done) | omega) hS34 ?_
   refine WDp (NPt (NPb (NPt (NPt (NPb (NPt hN)))))) 4 20 (.slice B ys.length d) (by kernel_rfl) (fun _ => by kernel_rfl) hS34 ?_
   refine WDp (NPt (NPb (NPt (NPt (NPb (NPt hN)))))) 5 21 (.int .i64 (i : Int)) (by kernel_rfl) (fun _ => by kernel_rfl) hS34 ?_
   obtain ⟨e41, he42⟩ := get_some (xs := ys) (i := i) (by omega)
   obtain ⟨b43, o45, hA44, hc46⟩ := hB.at_ _ _ he42
   refine WDi (NPt (NPb (NPt (NPt (NPb (NPt hN)))))) 6 B ys.length d 22 .i64 (i : Int) b43 o45 i 3 (by kernel_rfl) (by kernel_rfl) hA44 (by omega) (by omega) (o45 + i * 3) (by first | (simp; done) | omega) hS34 ?_
   refine WDl (NPt (NPb (NPt (NPt (NPb (NPt hN)))))) 3 64 (.pointer (some ⟨b37, o39 + i * 3, none⟩)) (.agg #[.int .u32 e35.dip, .int .i64 e35.port, .int .i64 e35.weight]) 19 (by kernel_rfl) (by kernel_rfl) (fun _ hS_ => run_rdN (l := [.int .u32 e35.dip, .int .i64 e35.port, .int .i64 e35.weight]) rfl rfl (fun j u hu => by have hq_ := Fr.cell hS_ (hC33.fr.cell (hc40 j u hu) (by simp)) (by simp); simpa [Nat.add_assoc] using hq_)) hS34 ?_
   refine WDl (NPt (NPb (NPt (NPt (NPb (NPt hN)))))) 7 64 (.pointer (some ⟨b43, o45 + i * 3, none⟩)) (.agg #[.int .u32 e41.dip, .int .i64 e41.port, .int .i64 e41.weight]) 23 (by kernel_rfl) (by kernel_rfl) (fun _ hS_ => run_rdN (l := [.int .u32 e41.dip, .int .i64 e41.port, .int .i64 e41.weight]) rfl rfl (fun j u hu => by have hq_ := Fr.cell hS_ (hC33.fr.cell (hc46 j u hu) (by simp)) (by simp); simpa [Nat.add_assoc] using hq_)) hS34 ?_
   have hr47 : ∀ w_, Sem.run Tryd.prog (do eqGuard .neq 64 (Operand.tmp 19) (Operand.tmp 23) (.agg #[.int .u32 e35.dip, .int .i64 e35.port, .int .i64 e35.weight]) (.agg #[.int .u32 e41.dip, .int .i64 e41.port, .int .i64 e41.weight]); binOp .neq 64 (.agg #[.int .u32 e35.dip, .int .i64 e35.port, .int .i64 e35.weight]) (.agg #[.int .u32 e41.dip, .int .i64 e41.port, .int .i64 e41.weight])) w_ = .ok (.bool (!(e35.dip == e41.dip && (e35.port == e41.port && (e35.weight == e41.weight && true))))) w_ := fun w_ => (run_neq_S (by kernel_rfl))
   refine WD.semP (NPt (NPb (NPt (NPt (NPb (NPt hN)))))) 8 (do eqGuard .neq 64 (Operand.tmp 19) (Operand.tmp 23) (.agg #[.int .u32 e35.dip, .int .i64 e35.port, .int .i64 e35.weight]) (.agg #[.int .u32 e41.dip, .int .i64 e41.port, .int .i64 e41.weight]); binOp .neq 64 (.agg #[.int .u32 e35.dip, .int .i64 e35.port, .int .i64 e35.weight]) (.agg #[.int .u32 e41.dip, .int .i64 e41.port, .int .i64 e41.weight])) 24 (.bool (!(e35.dip == e41.dip && (e35.port == e41.port && (e35.weight == e41.weight && true))))) (by kernel_rfl) (by kernel_rfl) (fun _ _ => hr47 _) hS34 ?_
   refine WD.recast (show (.bool (!(e35.dip == e41.dip && (e35.port == e41.port && (e35.weight == e41.weight && true)))) : Value) = .bool (!decide (e35 = e41)) from by rw [endV_beq]) ?_
   refine WD.done (by kernel_rfl) ?_
   refine QXn (hK30 _ _ ?_)
   refine WCa 24 (!decide (e35 = e41)) rfl (fun t48b => ?_) (fun t48b => ?_)
   ·
    have t48 : (decide (e35 = e41)) = false := by first | (simpa only [Bool.not_eq_true', Bool.not_eq_false'] using t48b) | simpa using t48b
    refine WCt rfl ?_
    refine WCs (fun K49 hK50 => ?_)
    refine WCg (WLr 1 [(4, .bool false)] (fun _ => by kernel_rfl) (WLd rfl (QXn (hK50 _ _ ?_))))
    refine WC.ret ?_
    refine QXk ?_
    refine QXr ?_
    refine QXr ?_
    refine QXk ?_
    refine QXr ?_
    refine (hret _ _ _ rfl ?_).1
    clear hN hret hret' hK50 hK30 hK28 hK26 hK23 hK21 hK13 hK11 hK6 hK4 hK2
    exact ⟨congrArg (fun b_ => Ending.returned (Value.bool b_)) (eqs_miss he36 he42 (by assumption)).symm, hC33.fr⟩
   ·
    have t48 : (decide (e35 = e41)) = true := by first | (simpa only [Bool.not_eq_true', Bool.not_eq_false'] using t48b) | simpa using t48b
    refine WCf rfl (WC.skip ?_)
    refine QXb ?_
    refine QXn (hK26 _ _ ?_)
    refine WCg (WLr 1 [(25, .int .i64 (IntKind.i64.wrap ((i : Int) + 1)))] (fun _ => by kernel_rfl) ?_)
    refine WLt (show (.int .i64 (IntKind.i64.wrap ((i : Int) + 1)) : Value) = .int .i64 ((i : Int) + 1) from by rw [wrap_in_i64 ((i : Int) + 1) (by omega) (by omega)]) ?_
    refine WLr 1 [(13, .int .i64 ((i : Int) + 1))] (fun _ => by kernel_rfl) ?_
    refine WLd rfl ?_
    refine QXn ?_
    have hC51 := hC33.pick [] [] rfl rfl
    refine fun a_ ha_ => hK15 _ _ _ ?_ ⟨i + 1, rfl, rfl, hC51, by omega, eqs_snoc hpre he36 he42 t48b⟩ a_ (ha_.weaken (sub_of ⟨rfl, rfl, rfl, rfl, rfl, trivial⟩))
    omega
  ·
   have t24 : (xs.length : Int) ≤ (i : Int) := by have q_ := of_decide_eq_false t24b; omega
   refine WCf rfl ?_
   refine WC.exit ?_
   refine QXe ?_
   refine QXe ?_
   refine QX.block_hit ?_
   refine QXn (hK11 _ _ ?_)
   refine WCs (fun K52 hK53 => ?_)
   refine WCg (WLr 1 [(4, .bool true)] (fun _ => by kernel_rfl) (WLd rfl (QXn (hK53 _ _ ?_))))
   refine WC.ret ?_
   refine (hret _ _ _ rfl ?_).1
   clear hN hret hret' hK53 hK23 hK21 hK13 hK11 hK6 hK4 hK2
   have hie_ : i = xs.length := by omega
   rw [List.take_of_length_le (by omega), List.take_of_length_le (by omega)] at hpre
   exact ⟨congrArg (fun b_ => Ending.returned (Value.bool b_)) (decide_eq_true hpre).symm, hC19.fr⟩

theorem eqEnds_n (A B : Option Addr) (n c n2 d : Nat) (xs ys : List EndV) (w : World) (hA : Rd w 3 cellsE A xs) (hB : Rd w 3 cellsE B ys) (h1 : xs.length = n) (h2 : ys.length = n2) (hlx : n ≤ 1099511627776) : Calls Tryd.prog 31 #[.slice A n c, .slice B n2 d] w fun e w' => e = .returned (.bool (decide (xs = ys))) ∧ Fr w w' [] := by subst h1 h2; exact eqEnds A B c d xs ys w hA hB hlx
theorem sameAddrs (A B : Option Addr) (c d : Nat) (xs ys : List Int) (w : World) (hA : Rd w 1 (Go.Tw.encI .u32) A xs) (hB : Rd w 1 (Go.Tw.encI .u32) B ys) (hlx : xs.length ≤ 1099511627776) : Calls Tryd.prog 36 #[.slice A xs.length c, .slice B ys.length d] w fun e w' => e = .returned (.bool (decide (xs = ys))) ∧ Fr w w' [] := by
 refine enterD (n := 26) Tryd.func36 rfl rfl (Nat.le_of_ble_eq_true rfl) ?_
 intro Q0 hN hret hret'
 have hC := Cx.start w
 refine WCs (fun K1 hK2 => ?_)
 refine WCg (WLr 1 [(4, .bool false)] (fun _ => by kernel_rfl) (WLd rfl (QXn (hK2 _ _ ?_))))
 refine WCs (fun K3 hK4 => ?_)
 refine WCs (fun K5 hK6 => ?_)
 refine WCg (WLr 5 [(10, .bool ((xs.length : Int) != (ys.length : Int))), (9, .int .i64 (ys.length : Int)), (8, .slice B ys.length d), (7, .int .i64 (xs.length : Int)), (6, .slice A xs.length c)] (fun _ => by kernel_rfl) (WLd rfl (QXn (hK6 _ _ ?_))))
 refine WCa 10 ((xs.length : Int) != (ys.length : Int)) rfl (fun t7b => ?_) (fun t7b => ?_)
 ·
  have t7 : (xs.length : Int) ≠ (ys.length : Int) := by simpa using t7b
  refine WCt rfl ?_
  refine WCs (fun K8 hK9 => ?_)
  refine WCg (WLr 1 [(4, .bool false)] (fun _ => by kernel_rfl) (WLd rfl (QXn (hK9 _ _ ?_))))
  refine WC.ret ?_
  refine QXr ?_
  refine (hret _ _ _ rfl ?_).1
  exact ⟨congrArg (fun b_ => Ending.returned (Value.bool b_)) (decide_eq_false (fun e_ => by subst e_; omega)).symm, hC.fr⟩
 ·
  have t7 : (xs.length : Int) = (ys.length : Int) := by simpa using t7b
  refine WCf rfl (WC.skip (QXn (hK4 _ _ ?_)))
  refine WCs (fun K10 hK11 => ?_)
  refine WCs (fun K12 hK13 => ?_)
  refine WCg (WLr 1 [(5, .int .i64 0)] (fun _ => by kernel_rfl) (WLd rfl (QXn (hK13 _ _ ?_))))
  refine WC.block ?_
  refine WC.loop (fun m_ E_ w_ => ∃ (i : Nat), m_ = xs.length - i ∧ E_ = [(0, .slice A xs.length c), (1, .slice B ys.length d), (5, .int .i64 (i : Int))] ∧ Cx w [] w_ [] [] ∧ (i ≤ xs.length ∧ xs.take i = ys.take i)) ⟨_, _, ⟨0, rfl, rfl, hC, Nat.zero_le _, rfl⟩, sub_of ⟨rfl, rfl, rfl, trivial⟩⟩ (fun m17 E_ w18 K14 hK15 hI16 => ?_)
  obtain ⟨i, rfl, rfl, hC19, hi, hpre⟩ := hI16
  refine WCs (fun K20 hK21 => ?_)
  refine WCs (fun K22 hK23 => ?_)
  refine WCg (WLr 4 [(14, .bool (decide ((i : Int) < (xs.length : Int)))), (13, .int .i64 (xs.length : Int)), (12, .slice A xs.length c), (11, .int .i64 (i : Int))] (fun _ => by kernel_rfl) (WLd rfl (QXn (hK23 _ _ ?_))))
  refine WCa 14 (decide ((i : Int) < (xs.length : Int))) rfl (fun t24b => ?_) (fun t24b => ?_)
  ·
   have t24 : (i : Int) < (xs.length : Int) := by have q_ := of_decide_eq_true t24b; omega
   refine WCt rfl ?_
   refine WC.skip ?_
   refine QXn (hK21 _ _ ?_)
   refine WCs (fun K25 hK26 => ?_)
   refine WC.block ?_
   refine WCs (fun K27 hK28 => ?_)
   refine WC.drawC hC19 [] (by kernel_rfl) (fun w29 hF30 hC31 hS32 => ?_)
   refine WDp (NPt (NPb (NPt (NPt (NPb (NPt hN)))))) 0 17 (.slice A xs.length c) (by kernel_rfl) (fun _ => by kernel_rfl) hS32 ?_
   refine WDp (NPt (NPb (NPt (NPt (NPb (NPt hN)))))) 1 18 (.int .i64 (i : Int)) (by kernel_rfl) (fun _ => by kernel_rfl) hS32 ?_
   obtain ⟨e33, he34⟩ := get_some (xs := xs) (i := i) (by omega)
   obtain ⟨b35, o37, hA36, hc38⟩ := hA.at_ _ _ he34
   refine WDi (NPt (NPb (NPt (NPt (NPb (NPt hN)))))) 2 A xs.length c 19 .i64 (i : Int) b35 o37 i 1 (by kernel_rfl) (by kernel_rfl) hA36 (by omega) (by omega) (o37 + i) (by first | (simp; done) | omega) hS32 ?_
   refine WDp (NPt (NPb (NPt (NPt (NPb (NPt hN)))))) 4 21 (.slice B ys.length d) (by kernel_rfl) (fun _ => by kernel_rfl) hS32 ?_
   refine WDp (NPt (NPb (NPt (NPt (NPb (NPt hN)))))) 5 22 (.int .i64 (i : Int)) (by kernel_rfl) (fun _ => by kernel_rfl) hS32 ?_
   obtain ⟨e39, he40⟩ := get_some (xs := ys) (i := i) (by omega)
   obtain ⟨b41, o43, hA42, hc44⟩ := hB.at_ _ _ he40
   refine WDi (NPt (NPb (NPt (NPt (NPb (NPt hN)))))) 6 B ys.length d 23 .i64 (i : Int) b41 o43 i 1 (by kernel_rfl) (by kernel_rfl) hA42 (by omega) (by omega) (o43 + i) (by first | (simp; done) | omega) hS32 ?_
   refine WDl (NPt (NPb (NPt (NPt (NPb (NPt hN)))))) 3 41 (.pointer (some ⟨b35, o37 + i, none⟩)) (.int .u32 e33) 20 (by kernel_rfl) (by kernel_rfl) (fun _ hS_ => run_load1 rfl (by simpa [Nat.add_assoc] using Fr.cell hS_ (hC31.fr.cell (hc38 0 _ rfl) (by simp)) (by simp))) hS32 ?_
   refine WDl (NPt (NPb (NPt (NPt (NPb (NPt hN)))))) 7 41 (.pointer (some ⟨b41, o43 + i, none⟩)) (.int .u32 e39) 24 (by kernel_rfl) (by kernel_rfl) (fun _ hS_ => run_load1 rfl (by simpa [Nat.add_assoc] using Fr.cell hS_ (hC31.fr.cell (hc44 0 _ rfl) (by simp)) (by simp))) hS32 ?_
   refine WDp (NPt (NPb (NPt (NPt (NPb (NPt hN)))))) 8 25 (.bool (e33 != e39)) (by kernel_rfl) (fun _ => by kernel_rfl) hS32 ?_
   refine WD.recast (show (.bool (e33 != e39) : Value) = .bool (!decide (e33 = e39)) from by rw [int_bne]) ?_
   refine WD.done (by kernel_rfl) ?_
   refine QXn (hK28 _ _ ?_)
   refine WCa 25 (!decide (e33 = e39)) rfl (fun t45b => ?_) (fun t45b => ?_)
   ·
    have t45 : (decide (e33 = e39)) = false := by first | (simpa only [Bool.not_eq_true', Bool.not_eq_false'] using t45b) | simpa using t45b
    refine WCt rfl ?_
    refine WCs (fun K46 hK47 => ?_)
    refine WCg (WLr 1 [(4, .bool false)] (fun _ => by kernel_rfl) (WLd rfl (QXn (hK47 _ _ ?_))))
    refine WC.ret ?_
    refine QXk ?_
    refine QXr ?_
    refine QXr ?_
    refine QXk ?_
    refine QXr ?_
    refine (hret _ _ _ rfl ?_).1
    clear hN hret hret' hK47 hK28 hK26 hK23 hK21 hK13 hK11 hK6 hK4 hK2
    exact ⟨congrArg (fun b_ => Ending.returned (Value.bool b_)) (eqs_miss he34 he40 (by assumption)).symm, hC31.fr⟩
   ·
    have t45 : (decide (e33 = e39)) = true := by first | (simpa only [Bool.not_eq_true', Bool.not_eq_false'] using t45b) | simpa using t45b
    refine WCf rfl (WC.skip ?_)
    refine QXb ?_
    refine QXn (hK26 _ _ ?_)
    refine WCg (WLr 2 [(16, .int .i64 (IntKind.i64.wrap ((i : Int) + 1))), (15, .int .i64 (i : Int))] (fun _ => by kernel_rfl) ?_)
    refine WLt (show (.int .i64 (IntKind.i64.wrap ((i : Int) + 1)) : Value) = .int .i64 ((i : Int) + 1) from by rw [wrap_in_i64 ((i : Int) + 1) (by omega) (by omega)]) ?_
    refine WLr 1 [(5, .int .i64 ((i : Int) + 1))] (fun _ => by kernel_rfl) ?_
    refine WLd rfl ?_
    refine QXn ?_
    have hC48 := hC31.pick [] [] rfl rfl
    refine fun a_ ha_ => hK15 _ _ _ ?_ ⟨i + 1, rfl, rfl, hC48, by omega, eqs_snoc hpre he34 he40 t45b⟩ a_ (ha_.weaken (sub_of ⟨rfl, rfl, rfl, trivial⟩))
    omega
  ·
   have t24 : (xs.length : Int) ≤ (i : Int) := by have q_ := of_decide_eq_false t24b; omega
   refine WCf rfl ?_
   refine WC.exit ?_
   refine QXe ?_
   refine QXe ?_
   refine QX.block_hit ?_
   refine QXn (hK11 _ _ ?_)
   refine WCs (fun K49 hK50 => ?_)
   refine WCg (WLr 1 [(4, .bool true)] (fun _ => by kernel_rfl) (WLd rfl (QXn (hK50 _ _ ?_))))
   refine WC.ret ?_
   refine (hret _ _ _ rfl ?_).1
   clear hN hret hret' hK50 hK23 hK21 hK13 hK11 hK6 hK4 hK2
   have hie_ : i = xs.length := by omega
   rw [List.take_of_length_le (by omega), List.take_of_length_le (by omega)] at hpre
   exact ⟨congrArg (fun b_ => Ending.returned (Value.bool b_)) (decide_eq_true hpre).symm, hC19.fr⟩

theorem sameAddrs_n (A B : Option Addr) (n c n2 d : Nat) (xs ys : List Int) (w : World) (hA : Rd w 1 (Go.Tw.encI .u32) A xs) (hB : Rd w 1 (Go.Tw.encI .u32) B ys) (h1 : xs.length = n) (h2 : ys.length = n2) (hlx : n ≤ 1099511627776) : Calls Tryd.prog 36 #[.slice A n c, .slice B n2 d] w fun e w' => e = .returned (.bool (decide (xs = ys))) ∧ Fr w w' [] := by subst h1 h2; exact sameAddrs A B c d xs ys w hA hB hlx
theorem sameLs (A B : Option Addr) (c d : Nat) (xs ys : List Lease) (w : World) (hA : Rd w 4 encL A xs) (hB : Rd w 4 encL B ys) (hlx : xs.length ≤ 1099511627776) : Calls Tryd.prog 37 #[.slice A xs.length c, .slice B ys.length d] w fun e w' => e = .returned (.bool (decide (xs = ys))) ∧ Fr w w' [] := by
 refine enterD (n := 26) Tryd.func37 rfl rfl (Nat.le_of_ble_eq_true rfl) ?_
 intro Q0 hN hret hret'
 have hC := Cx.start w
 refine WCs (fun K1 hK2 => ?_)
 refine WCg (WLr 1 [(4, .bool false)] (fun _ => by kernel_rfl) (WLd rfl (QXn (hK2 _ _ ?_))))
 refine WCs (fun K3 hK4 => ?_)
 refine WCs (fun K5 hK6 => ?_)
 refine WCg (WLr 5 [(10, .bool ((xs.length : Int) != (ys.length : Int))), (9, .int .i64 (ys.length : Int)), (8, .slice B ys.length d), (7, .int .i64 (xs.length : Int)), (6, .slice A xs.length c)] (fun _ => by kernel_rfl) (WLd rfl (QXn (hK6 _ _ ?_))))
 refine WCa 10 ((xs.length : Int) != (ys.length : Int)) rfl (fun t7b => ?_) (fun t7b => ?_)
 ·
  have t7 : (xs.length : Int) ≠ (ys.length : Int) := by simpa using t7b
  refine WCt rfl ?_
  refine WCs (fun K8 hK9 => ?_)
  refine WCg (WLr 1 [(4, .bool false)] (fun _ => by kernel_rfl) (WLd rfl (QXn (hK9 _ _ ?_))))
  refine WC.ret ?_
  refine QXr ?_
  refine (hret _ _ _ rfl ?_).1
  exact ⟨congrArg (fun b_ => Ending.returned (Value.bool b_)) (decide_eq_false (fun e_ => by subst e_; omega)).symm, hC.fr⟩
 ·
  have t7 : (xs.length : Int) = (ys.length : Int) := by simpa using t7b
  refine WCf rfl (WC.skip (QXn (hK4 _ _ ?_)))
  refine WCs (fun K10 hK11 => ?_)
  refine WCs (fun K12 hK13 => ?_)
  refine WCg (WLr 1 [(5, .int .i64 0)] (fun _ => by kernel_rfl) (WLd rfl (QXn (hK13 _ _ ?_))))
  refine WC.block ?_
  refine WC.loop (fun m_ E_ w_ => ∃ (i : Nat), m_ = xs.length - i ∧ E_ = [(0, .slice A xs.length c), (1, .slice B ys.length d), (5, .int .i64 (i : Int))] ∧ Cx w [] w_ [] [] ∧ (i ≤ xs.length ∧ xs.take i = ys.take i)) ⟨_, _, ⟨0, rfl, rfl, hC, Nat.zero_le _, rfl⟩, sub_of ⟨rfl, rfl, rfl, trivial⟩⟩ (fun m17 E_ w18 K14 hK15 hI16 => ?_)
  obtain ⟨i, rfl, rfl, hC19, hi, hpre⟩ := hI16
  refine WCs (fun K20 hK21 => ?_)
  refine WCs (fun K22 hK23 => ?_)
  refine WCg (WLr 4 [(14, .bool (decide ((i : Int) < (xs.length : Int)))), (13, .int .i64 (xs.length : Int)), (12, .slice A xs.length c), (11, .int .i64 (i : Int))] (fun _ => by kernel_rfl) (WLd rfl (QXn (hK23 _ _ ?_))))
  refine WCa 14 (decide ((i : Int) < (xs.length : Int))) rfl (fun t24b => ?_) (fun t24b => ?_)
  ·
   have t24 : (i : Int) < (xs.length : Int) := by have q_ := of_decide_eq_true t24b; omega
   refine WCt rfl ?_
   refine WC.skip ?_
   refine QXn (hK21 _ _ ?_)
   refine WCs (fun K25 hK26 => ?_)
   refine WC.block ?_
   refine WCs (fun K27 hK28 => ?_)
   refine WC.drawC hC19 [] (by kernel_rfl) (fun w29 hF30 hC31 hS32 => ?_)
   refine WDp (NPt (NPb (NPt (NPt (NPb (NPt hN)))))) 0 17 (.slice A xs.length c) (by kernel_rfl) (fun _ => by kernel_rfl) hS32 ?_
   refine WDp (NPt (NPb (NPt (NPt (NPb (NPt hN)))))) 1 18 (.int .i64 (i : Int)) (by kernel_rfl) (fun _ => by kernel_rfl) hS32 ?_
   obtain ⟨e33, he34⟩ := get_some (xs := xs) (i := i) (by omega)
   obtain ⟨b35, o37, hA36, hc38⟩ := hA.at_ _ _ he34
   refine WDi (NPt (NPb (NPt (NPt (NPb (NPt hN)))))) 2 A xs.length c 19 .i64 (i : Int) b35 o37 i 4 (by kernel_rfl) (by kernel_rfl) hA36 (by omega) (by omega) (o37 + i * 4) (by first | (simp; done) | omega) hS32 ?_
   refine WDp (NPt (NPb (NPt (NPt (NPb (NPt hN)))))) 4 21 (.slice B ys.length d) (by kernel_rfl) (fun _ => by kernel_rfl) hS32 ?_
   refine WDp (NPt (NPb (NPt (NPt (NPb (NPt hN)))))) 5 22 (.int .i64 (i : Int)) (by kernel_rfl) (fun _ => by kernel_rfl) hS32 ?_
   obtain ⟨e39, he40⟩ := get_some (xs := ys) (i := i) (by omega)
   obtain ⟨b41, o43, hA42, hc44⟩ := hB.at_ _ _ he40
   refine WDi (NPt (NPb (NPt (NPt (NPb (NPt hN)))))) 6 B ys.length d 23 .i64 (i : Int) b41 o43 i 4 (by kernel_rfl) (by kernel_rfl) hA42 (by omega) (by omega) (o43 + i * 4) (by first | (simp; done) | omega) hS32 ?_
   refine WDl (NPt (NPb (NPt (NPt (NPb (NPt hN)))))) 3 43 (.pointer (some ⟨b35, o37 + i * 4, none⟩)) (.agg #[.int .u32 e33.vip, .int .i64 e33.first, .int .u32 e33.dip, .int .i64 e33.exp]) 20 (by kernel_rfl) (by kernel_rfl) (fun _ hS_ => run_rdN (l := [.int .u32 e33.vip, .int .i64 e33.first, .int .u32 e33.dip, .int .i64 e33.exp]) rfl rfl (fun j u hu => by have hq_ := Fr.cell hS_ (hC31.fr.cell (hc38 j u hu) (by simp)) (by simp); simpa [Nat.add_assoc] using hq_)) hS32 ?_
   refine WDl (NPt (NPb (NPt (NPt (NPb (NPt hN)))))) 7 43 (.pointer (some ⟨b41, o43 + i * 4, none⟩)) (.agg #[.int .u32 e39.vip, .int .i64 e39.first, .int .u32 e39.dip, .int .i64 e39.exp]) 24 (by kernel_rfl) (by kernel_rfl) (fun _ hS_ => run_rdN (l := [.int .u32 e39.vip, .int .i64 e39.first, .int .u32 e39.dip, .int .i64 e39.exp]) rfl rfl (fun j u hu => by have hq_ := Fr.cell hS_ (hC31.fr.cell (hc44 j u hu) (by simp)) (by simp); simpa [Nat.add_assoc] using hq_)) hS32 ?_
   have hr45 : ∀ w_, Sem.run Tryd.prog (do eqGuard .neq 43 (Operand.tmp 20) (Operand.tmp 24) (.agg #[.int .u32 e33.vip, .int .i64 e33.first, .int .u32 e33.dip, .int .i64 e33.exp]) (.agg #[.int .u32 e39.vip, .int .i64 e39.first, .int .u32 e39.dip, .int .i64 e39.exp]); binOp .neq 43 (.agg #[.int .u32 e33.vip, .int .i64 e33.first, .int .u32 e33.dip, .int .i64 e33.exp]) (.agg #[.int .u32 e39.vip, .int .i64 e39.first, .int .u32 e39.dip, .int .i64 e39.exp])) w_ = .ok (.bool (!(e33.vip == e39.vip && (e33.first == e39.first && (e33.dip == e39.dip && (e33.exp == e39.exp && true)))))) w_ := fun w_ => (run_neq_S (by kernel_rfl))
   refine WD.semP (NPt (NPb (NPt (NPt (NPb (NPt hN)))))) 8 (do eqGuard .neq 43 (Operand.tmp 20) (Operand.tmp 24) (.agg #[.int .u32 e33.vip, .int .i64 e33.first, .int .u32 e33.dip, .int .i64 e33.exp]) (.agg #[.int .u32 e39.vip, .int .i64 e39.first, .int .u32 e39.dip, .int .i64 e39.exp]); binOp .neq 43 (.agg #[.int .u32 e33.vip, .int .i64 e33.first, .int .u32 e33.dip, .int .i64 e33.exp]) (.agg #[.int .u32 e39.vip, .int .i64 e39.first, .int .u32 e39.dip, .int .i64 e39.exp])) 25 (.bool (!(e33.vip == e39.vip && (e33.first == e39.first && (e33.dip == e39.dip && (e33.exp == e39.exp && true)))))) (by kernel_rfl) (by kernel_rfl) (fun _ _ => hr45 _) hS32 ?_
   refine WD.recast (show (.bool (!(e33.vip == e39.vip && (e33.first == e39.first && (e33.dip == e39.dip && (e33.exp == e39.exp && true))))) : Value) = .bool (!decide (e33 = e39)) from by rw [lease_beq]) ?_
   refine WD.done (by kernel_rfl) ?_
   refine QXn (hK28 _ _ ?_)
   refine WCa 25 (!decide (e33 = e39)) rfl (fun t46b => ?_) (fun t46b => ?_)
   ·
    have t46 : (decide (e33 = e39)) = false := by first | (simpa only [Bool.not_eq_true', Bool.not_eq_false'] using t46b) | simpa using t46b
    refine WCt rfl ?_
    refine WCs (fun K47 hK48 => ?_)
    refine WCg (WLr 1 [(4, .bool false)] (fun _ => by kernel_rfl) (WLd rfl (QXn (hK48 _ _ ?_))))
    refine WC.ret ?_
    refine QXk ?_
    refine QXr ?_
    refine QXr ?_
    refine QXk ?_
    refine QXr ?_
    refine (hret _ _ _ rfl ?_).1
    clear hN hret hret' hK48 hK28 hK26 hK23 hK21 hK13 hK11 hK6 hK4 hK2
    exact ⟨congrArg (fun b_ => Ending.returned (Value.bool b_)) (eqs_miss he34 he40 (by assumption)).symm, hC31.fr⟩
   ·
    have t46 : (decide (e33 = e39)) = true := by first | (simpa only [Bool.not_eq_true', Bool.not_eq_false'] using t46b) | simpa using t46b
    refine WCf rfl (WC.skip ?_)
    refine QXb ?_
    refine QXn (hK26 _ _ ?_)
    refine WCg (WLr 2 [(16, .int .i64 (IntKind.i64.wrap ((i : Int) + 1))), (15, .int .i64 (i : Int))] (fun _ => by kernel_rfl) ?_)
    refine WLt (show (.int .i64 (IntKind.i64.wrap ((i : Int) + 1)) : Value) = .int .i64 ((i : Int) + 1) from by rw [wrap_in_i64 ((i : Int) + 1) (by omega) (by omega)]) ?_
    refine WLr 1 [(5, .int .i64 ((i : Int) + 1))] (fun _ => by kernel_rfl) ?_
    refine WLd rfl ?_
    refine QXn ?_
    have hC49 := hC31.pick [] [] rfl rfl
    refine fun a_ ha_ => hK15 _ _ _ ?_ ⟨i + 1, rfl, rfl, hC49, by omega, eqs_snoc hpre he34 he40 t46b⟩ a_ (ha_.weaken (sub_of ⟨rfl, rfl, rfl, trivial⟩))
    omega
  ·
   have t24 : (xs.length : Int) ≤ (i : Int) := by have q_ := of_decide_eq_false t24b; omega
   refine WCf rfl ?_
   refine WC.exit ?_
   refine QXe ?_
   refine QXe ?_
   refine QX.block_hit ?_
   refine QXn (hK11 _ _ ?_)
   refine WCs (fun K50 hK51 => ?_)
   refine WCg (WLr 1 [(4, .bool true)] (fun _ => by kernel_rfl) (WLd rfl (QXn (hK51 _ _ ?_))))
   refine WC.ret ?_
   refine (hret _ _ _ rfl ?_).1
   clear hN hret hret' hK51 hK23 hK21 hK13 hK11 hK6 hK4 hK2
   have hie_ : i = xs.length := by omega
   rw [List.take_of_length_le (by omega), List.take_of_length_le (by omega)] at hpre
   exact ⟨congrArg (fun b_ => Ending.returned (Value.bool b_)) (decide_eq_true hpre).symm, hC19.fr⟩

theorem sameLs_n (A B : Option Addr) (n c n2 d : Nat) (xs ys : List Lease) (w : World) (hA : Rd w 4 encL A xs) (hB : Rd w 4 encL B ys) (h1 : xs.length = n) (h2 : ys.length = n2) (hlx : n ≤ 1099511627776) : Calls Tryd.prog 37 #[.slice A n c, .slice B n2 d] w fun e w' => e = .returned (.bool (decide (xs = ys))) ∧ Fr w w' [] := by subst h1 h2; exact sameLs A B c d xs ys w hA hB hlx
theorem likeS_ct (a b : Svc) (w : World) (ha : svcAt w a) (hb : svcAt w b) : Calls Tryd.prog 29 #[.agg #[.int .u32 a.v.vip, .int .i64 a.v.proto, .int .i64 a.v.port, .slice a.a a.v.ends.length a.c], .agg #[.int .u32 b.v.vip, .int .i64 b.v.proto, .int .i64 b.v.port, .slice b.a b.v.ends.length b.c]] w fun e w' => e = .returned (.bool (decide (a.v = b.v))) ∧ Fr w w' [] := by
 refine enterD (n := 16) Tryd.func29 rfl rfl (Nat.le_of_ble_eq_true rfl) ?_
 intro Q0 hN hret hret'
 have hC := Cx.start w
 refine WCs (fun K1 hK2 => ?_)
 refine WCg ?_
 refine WL.newM hC (fun b => .pointer (some ⟨b, 0, none⟩)) (.cells #[.int .u32 a.v.vip, .int .i64 a.v.proto, .int .i64 a.v.port, .slice a.a a.v.ends.length a.c] 52) 2 (fun _ => by kernel_rfl) (fun g3 w4 hb7 hF5 hC6 => ?_)
 refine WL.newM hC6 (fun b => .pointer (some ⟨b, 0, none⟩)) (.cells #[.int .u32 b.v.vip, .int .i64 b.v.proto, .int .i64 b.v.port, .slice b.a b.v.ends.length b.c] 52) 3 (fun _ => by kernel_rfl) (fun g8 w9 hb12 hF10 hC11 => ?_)
 refine WLr 1 [(4, .bool false)] (fun _ => by kernel_rfl) (WLd rfl (QXn (hK2 _ _ ?_)))
 refine WCs (fun K13 hK14 => ?_)
 refine WCg ?_
 refine WL.load 52 (.pointer (some ⟨g3, 0, none⟩)) (.agg #[.int .u32 a.v.vip, .int .i64 a.v.proto, .int .i64 a.v.port, .slice a.a a.v.ends.length a.c]) 5 (by kernel_rfl) (run_ld (hC11.get 0 rfl) rfl) ?_
 refine WL.load 52 (.pointer (some ⟨g8, 0, none⟩)) (.agg #[.int .u32 b.v.vip, .int .i64 b.v.proto, .int .i64 b.v.port, .slice b.a b.v.ends.length b.c]) 6 (by kernel_rfl) (run_ld (hC11.get 1 rfl) rfl) ?_
 refine WLc rfl rfl rfl rfl rfl (by kernel_rfl) (byName_ct a b w9) ?_
 rintro _ w16 ⟨rfl, hF15⟩
 refine ⟨_, rfl, ?_⟩
 have hC17 := hC11.call hF15
 refine WLr 2 [(9, .bool ((cmp3 (kS a) (kS b)) == 0)), (8, .bool ((cmp3 (kS a) (kS b)) == 0))] (fun _ => by kernel_rfl) ?_
 refine WLa 9 ((cmp3 (kS a) (kS b)) == 0) rfl (fun t18b => ?_) (fun t18b => ?_)
 ·
  have t18 : (cmp3 (kS a) (kS b)) = 0 := by simpa using t18b
  refine WLr 1 [(10, .pointer (some ⟨g3, 3, none⟩))] (fun _ => by kernel_rfl) ?_
  refine WL.load 50 (.pointer (some ⟨g3, 3, none⟩)) (.slice a.a a.v.ends.length a.c) 11 (by kernel_rfl) (run_ld (hC17.get 0 rfl) rfl) ?_
  refine WLr 1 [(12, .pointer (some ⟨g8, 3, none⟩))] (fun _ => by kernel_rfl) ?_
  refine WL.load 50 (.pointer (some ⟨g8, 3, none⟩)) (.slice b.a b.v.ends.length b.c) 13 (by kernel_rfl) (run_ld (hC17.get 1 rfl) rfl) ?_
  refine WLc rfl rfl rfl rfl rfl (by kernel_rfl) (eqEnds_n a.a b.a a.v.ends.length a.c b.v.ends.length b.c a.v.ends b.v.ends w16 (Rd.fr ha.rd hC17.fr) (Rd.fr hb.rd hC17.fr) rfl rfl (by first | exact ha.lim | omega)) ?_
  rintro _ w20 ⟨rfl, hF19⟩
  refine ⟨_, rfl, ?_⟩
  have hC21 := hC17.call hF19
  refine WLr 2 [(4, .bool (decide (a.v.ends = b.v.ends))), (15, .bool (decide (a.v.ends = b.v.ends)))] (fun _ => by kernel_rfl) (WLd rfl (QXn (hK14 _ _ ?_)))
  refine WC.ret ?_
  refine (hret _ _ _ rfl ?_).1
  exact ⟨congrArg (fun b_ => Ending.returned (Value.bool b_)) (dec_of ⟨fun h_ => like_kS (by simpa using t18b) h_, fun h_ => by rw [h_]⟩), hC21.fr⟩
 ·
  have t18 : ¬ ((cmp3 (kS a) (kS b)) = 0) := by simpa using t18b
  refine WLr 7 [(4, .bool false), (15, .bool false), (14, undef), (13, undef), (12, undef), (11, undef), (10, undef)] (fun _ => by kernel_rfl) (WLd rfl (QXn (hK14 _ _ ?_)))
  refine WC.ret ?_
  refine (hret _ _ _ rfl ?_).1
  exact ⟨congrArg (fun b_ => Ending.returned (Value.bool b_)) (decide_eq_false (like_no1 (by simpa using t18b))).symm, hC17.fr⟩

theorem eqFuncS_ct (A B : Option Addr) (c d : Nat) (xs ys : List Svc) (w : World) (hA : Rd w 4 cellsS A xs) (hB : Rd w 4 cellsS B ys) (hatA : ∀ s ∈ xs, svcAt w s) (hatB : ∀ s ∈ ys, svcAt w s) (hlx : xs.length ≤ 1099511627776) : Calls Tryd.prog 32 #[.slice A xs.length c, .slice B ys.length d, .func (.func 29) #[] #[]] w fun e w' => e = .returned (.bool (decide (xs.map (·.v) = ys.map (·.v)))) ∧ Fr w w' [] := by
 refine enterD (n := 32) Tryd.func32 rfl rfl (Nat.le_of_ble_eq_true rfl) ?_
 intro Q0 hN hret hret'
 have hC := Cx.start w
 refine WCs (fun K1 hK2 => ?_)
 refine WCg (WLr 1 [(6, .bool false)] (fun _ => by kernel_rfl) (WLd rfl (QXn (hK2 _ _ ?_))))
 refine WCs (fun K3 hK4 => ?_)
 refine WCs (fun K5 hK6 => ?_)
 refine WCg (WLr 5 [(14, .bool ((xs.length : Int) != (ys.length : Int))), (13, .int .i64 (ys.length : Int)), (12, .slice B ys.length d), (11, .int .i64 (xs.length : Int)), (10, .slice A xs.length c)] (fun _ => by kernel_rfl) (WLd rfl (QXn (hK6 _ _ ?_))))
 refine WCa 14 ((xs.length : Int) != (ys.length : Int)) rfl (fun t7b => ?_) (fun t7b => ?_)
 ·
  have t7 : (xs.length : Int) ≠ (ys.length : Int) := by simpa using t7b
  refine WCt rfl ?_
  refine WCs (fun K8 hK9 => ?_)
  refine WCg (WLr 1 [(6, .bool false)] (fun _ => by kernel_rfl) (WLd rfl (QXn (hK9 _ _ ?_))))
  refine WC.ret ?_
  refine QXr ?_
  refine (hret _ _ _ rfl ?_).1
  exact ⟨congrArg (fun b_ => Ending.returned (Value.bool b_)) (decide_eq_false (eqv_len (by omega))).symm, hC.fr⟩
 ·
  have t7 : (xs.length : Int) = (ys.length : Int) := by simpa using t7b
  refine WCf rfl (WC.skip (QXn (hK4 _ _ ?_)))
  refine WCs (fun K10 hK11 => ?_)
  refine WCs (fun K12 hK13 => ?_)
  refine WCg (WLr 3 [(17, .int .i64 0), (16, .int .i64 (xs.length : Int)), (15, .slice A xs.length c)] (fun _ => by kernel_rfl) (WLd rfl (QXn (hK13 _ _ ?_))))
  refine WC.block ?_
  refine WC.loop (fun m_ E_ w_ => ∃ (i : Nat), m_ = xs.length - i ∧ E_ = [(0, .slice A xs.length c), (1, .slice B ys.length d), (2, .func (.func 29) #[] #[]), (10, .slice A xs.length c), (11, .int .i64 (xs.length : Int)), (12, .slice B ys.length d), (13, .int .i64 (ys.length : Int)), (14, .bool false), (15, .slice A xs.length c), (16, .int .i64 (xs.length : Int)), (17, .int .i64 (i : Int))] ∧ Cx w [] w_ [] [] ∧ (i ≤ xs.length ∧ (xs.take i).map (·.v) = (ys.take i).map (·.v))) ⟨_, _, ⟨0, rfl, rfl, hC, Nat.zero_le _, rfl⟩, sub_of ⟨rfl, rfl, rfl, rfl, rfl, rfl, rfl, rfl, rfl, rfl, rfl, trivial⟩⟩ (fun m17 E_ w18 K14 hK15 hI16 => ?_)
  obtain ⟨i, rfl, rfl, hC19, hi, hpre⟩ := hI16
  refine WCs (fun K20 hK21 => ?_)
  refine WCg (WLr 1 [(18, .bool (decide ((i : Int) < (xs.length : Int))))] (fun _ => by kernel_rfl) (WLd rfl (QXn (hK21 _ _ ?_))))
  refine WCs (fun K22 hK23 => ?_)
  refine WCa 18 (decide ((i : Int) < (xs.length : Int))) rfl (fun t24b => ?_) (fun t24b => ?_)
  ·
   have t24 : (i : Int) < (xs.length : Int) := by have q_ := of_decide_eq_true t24b; omega
   refine WCt rfl ?_
   refine WC.skip ?_
   refine QXn (hK23 _ _ ?_)
   refine WCs (fun K25 hK26 => ?_)
   refine WC.block ?_
   refine WCs (fun K27 hK28 => ?_)
   refine WCg (WLr 1 [(19, .int .i64 (i : Int))] (fun _ => by kernel_rfl) ?_)
   obtain ⟨e29, he30⟩ := get_some (xs := xs) (i := i) (by omega)
   obtain ⟨b31, o33, hA32, hc34⟩ := hA.at_ _ _ he30
   have hat_e29 := hatA _ (List.mem_of_getElem? he30)
   refine WLi A xs.length c 20 .i64 (i : Int) b31 o33 i 4 (by kernel_rfl) hA32 (by omega) (by omega) (o33 + i * 4) (by first | (simp; done) | omega) ?_
   refine WL.load 52 (.pointer (some ⟨b31, o33 + i * 4, none⟩)) (.agg #[.int .u32 e29.v.vip, .int .i64 e29.v.proto, .int .i64 e29.v.port, .slice e29.a e29.v.ends.length e29.c]) 21 (by kernel_rfl) (run_rdN (l := [.int .u32 e29.v.vip, .int .i64 e29.v.proto, .int .i64 e29.v.port, .slice e29.a e29.v.ends.length e29.c]) rfl rfl (fun j u hu => by have hq_ := hC19.fr.cell (hc34 j u hu) (by simp); simpa [Nat.add_assoc] using hq_)) ?_
   refine WL.newM hC19 (fun b => .pointer (some ⟨b, 0, none⟩)) (.cells #[.int .u32 0, .int .i64 0, .int .i64 0, .slice none 0 0] 52) 8 (fun _ => by kernel_rfl) (fun g35 w36 hb39 hF37 hC38 => ?_)
   refine WLr 1 [(7, .int .i64 (i : Int))] (fun _ => by kernel_rfl) ?_
   refine WLs (c' := #[.int .u32 e29.v.vip, .int .i64 e29.v.proto, .int .i64 e29.v.port, .slice e29.a e29.v.ends.length e29.c]) hC38 0 52 g35 0 (.agg #[.int .u32 e29.v.vip, .int .i64 e29.v.proto, .int .i64 e29.v.port, .slice e29.a e29.v.ends.length e29.c]) (by kernel_rfl) rfl (by kernel_rfl) (fun w40 hF42 hC43 => ?_)
   refine WLd rfl (QXn (hK28 _ _ ?_))
   refine WCs (fun K44 hK45 => ?_)
   refine WCg (WLr 2 [(23, .int .i64 (i : Int)), (22, .slice B ys.length d)] (fun _ => by kernel_rfl) ?_)
   obtain ⟨e46, he47⟩ := get_some (xs := ys) (i := i) (by omega)
   obtain ⟨b48, o50, hA49, hc51⟩ := hB.at_ _ _ he47
   have hat_e46 := hatB _ (List.mem_of_getElem? he47)
   refine WLi B ys.length d 24 .i64 (i : Int) b48 o50 i 4 (by kernel_rfl) hA49 (by omega) (by omega) (o50 + i * 4) (by first | (simp; done) | omega) ?_
   refine WL.load 52 (.pointer (some ⟨b48, o50 + i * 4, none⟩)) (.agg #[.int .u32 e46.v.vip, .int .i64 e46.v.proto, .int .i64 e46.v.port, .slice e46.a e46.v.ends.length e46.c]) 25 (by kernel_rfl) (run_rdN (l := [.int .u32 e46.v.vip, .int .i64 e46.v.proto, .int .i64 e46.v.port, .slice e46.a e46.v.ends.length e46.c]) rfl rfl (fun j u hu => by have hq_ := hC43.fr.cell (hc51 j u hu) (by simp); simpa [Nat.add_assoc] using hq_)) ?_
   refine WL.newM hC43 (fun b => .pointer (some ⟨b, 0, none⟩)) (.cells #[.int .u32 0, .int .i64 0, .int .i64 0, .slice none 0 0] 52) 9 (fun _ => by kernel_rfl) (fun g52 w53 hb56 hF54 hC55 => ?_)
   refine WLs (c' := #[.int .u32 e46.v.vip, .int .i64 e46.v.proto, .int .i64 e46.v.port, .slice e46.a e46.v.ends.length e46.c]) hC55 1 52 g52 0 (.agg #[.int .u32 e46.v.vip, .int .i64 e46.v.proto, .int .i64 e46.v.port, .slice e46.a e46.v.ends.length e46.c]) (by kernel_rfl) rfl (by kernel_rfl) (fun w57 hF59 hC60 => ?_)
   refine WLd rfl (QXn (hK45 _ _ ?_))
   refine WCs (fun K61 hK62 => ?_)
   refine WCg (WLr 1 [(26, .func (.func 29) #[] #[])] (fun _ => by kernel_rfl) ?_)
   refine WL.load 52 (.pointer (some ⟨g35, 0, none⟩)) (.agg #[.int .u32 e29.v.vip, .int .i64 e29.v.proto, .int .i64 e29.v.port, .slice e29.a e29.v.ends.length e29.c]) 27 (by kernel_rfl) (run_ld (hC60.get 0 rfl) rfl) ?_
   refine WL.load 52 (.pointer (some ⟨g52, 0, none⟩)) (.agg #[.int .u32 e46.v.vip, .int .i64 e46.v.proto, .int .i64 e46.v.port, .slice e46.a e46.v.ends.length e46.c]) 28 (by kernel_rfl) (run_ld (hC60.get 1 rfl) rfl) ?_
   refine WLc rfl rfl rfl rfl rfl (by kernel_rfl) (likeS_ct e29 e46 w57 ((hat_e29).fr hC60.fr (fun _ _ => by simp)) ((hat_e46).fr hC60.fr (fun _ _ => by simp))) ?_
   rintro _ w64 ⟨rfl, hF63⟩
   refine ⟨_, rfl, ?_⟩
   have hC65 := hC60.call hF63
   refine WLr 1 [(30, .bool (!(decide (e29.v = e46.v))))] (fun _ => by kernel_rfl) (WLd rfl (QXn (hK62 _ _ ?_)))
   refine WCa 30 (!(decide (e29.v = e46.v))) rfl (fun t66b => ?_) (fun t66b => ?_)
   ·
    have t66 : (decide (e29.v = e46.v)) = false := by first | (simpa only [Bool.not_eq_true', Bool.not_eq_false'] using t66b) | simpa using t66b
    refine WCt rfl ?_
    refine WCs (fun K67 hK68 => ?_)
    refine WCg (WLr 1 [(6, .bool false)] (fun _ => by kernel_rfl) (WLd rfl (QXn (hK68 _ _ ?_))))
    refine WC.ret ?_
    refine QXk ?_
    refine QXr ?_
    refine QXr ?_
    refine QXk ?_
    refine QXr ?_
    refine (hret _ _ _ rfl ?_).1
    exact ⟨congrArg (fun b_ => Ending.returned (Value.bool b_)) (decide_eq_false (eqv_miss he30 he47 (by simpa using t66b))).symm, hC65.fr⟩
   ·
    have t66 : (decide (e29.v = e46.v)) = true := by first | (simpa only [Bool.not_eq_true', Bool.not_eq_false'] using t66b) | simpa using t66b
    refine WCf rfl (WC.skip ?_)
    refine QXb ?_
    refine QXn (hK26 _ _ ?_)
    refine WCg (WLr 1 [(31, .int .i64 (IntKind.i64.wrap ((i : Int) + 1)))] (fun _ => by kernel_rfl) ?_)
    refine WLt (show (.int .i64 (IntKind.i64.wrap ((i : Int) + 1)) : Value) = .int .i64 ((i : Int) + 1) from by rw [wrap_in_i64 ((i : Int) + 1) (by omega) (by omega)]) ?_
    refine WLr 1 [(17, .int .i64 ((i : Int) + 1))] (fun _ => by kernel_rfl) ?_
    refine WLd rfl ?_
    refine QXn ?_
    have hC69 := hC65.pick [] [] rfl rfl
    refine fun a_ ha_ => hK15 _ _ _ ?_ ⟨i + 1, rfl, rfl, hC69, by omega, eqv_snoc hpre he30 he47 (by simpa using t66b)⟩ a_ (ha_.weaken (sub_of ⟨rfl, rfl, rfl, rfl, rfl, rfl, rfl, rfl, rfl, rfl, rfl, trivial⟩))
    omega
  ·
   have t24 : (xs.length : Int) ≤ (i : Int) := by have q_ := of_decide_eq_false t24b; omega
   refine WCf rfl ?_
   refine WC.exit ?_
   refine QXe ?_
   refine QXe ?_
   refine QX.block_hit ?_
   refine QXn (hK11 _ _ ?_)
   refine WCs (fun K70 hK71 => ?_)
   refine WCg (WLr 1 [(6, .bool true)] (fun _ => by kernel_rfl) (WLd rfl (QXn (hK71 _ _ ?_))))
   refine WC.ret ?_
   refine (hret _ _ _ rfl ?_).1
   exact ⟨congrArg (fun b_ => Ending.returned (Value.bool b_)) (decide_eq_true (eqv_end hpre (by omega) (by omega))).symm, hC19.fr⟩

theorem eqFuncS_n (A B : Option Addr) (n c n2 d : Nat) (xs ys : List Svc) (w : World) (hA : Rd w 4 cellsS A xs) (hB : Rd w 4 cellsS B ys) (hatA : ∀ s ∈ xs, svcAt w s) (hatB : ∀ s ∈ ys, svcAt w s) (h1 : xs.length = n) (h2 : ys.length = n2) (hlx : n ≤ 1099511627776) : Calls Tryd.prog 32 #[.slice A n c, .slice B n2 d, .func (.func 29) #[] #[]] w fun e w' => e = .returned (.bool (decide (xs.map (·.v) = ys.map (·.v)))) ∧ Fr w w' [] := by subst h1 h2; exact eqFuncS_ct A B c d xs ys w hA hB hatA hatB hlx
set_option maxHeartbeats 1000000 in
theorem Same_ct (ce1 cn1 : Int) (AS1 : Option Addr) (cS1 : Nat) (xs1 : List Svc) (AN1 : Option Addr) (cN1 : Nat) (ns1 : List SnatV) (AK1 : Option Addr) (cK1 : Nat) (ks1 : List Int) (AL1 : Option Addr) (cL1 : Nat) (ls1 : List Lease) (ce2 cn2 : Int) (AS2 : Option Addr) (cS2 : Nat) (xs2 : List Svc) (AN2 : Option Addr) (cN2 : Nat) (ns2 : List SnatV) (AK2 : Option Addr) (cK2 : Nat) (ks2 : List Int) (AL2 : Option Addr) (cL2 : Nat) (ls2 : List Lease) (w : World) (hqS1 : Rd w 4 cellsS AS1 xs1) (hat1 : ∀ s ∈ xs1, svcAt w s) (hqN1 : Rd w 2 cellsN AN1 ns1) (hqK1 : Rd w 1 (Go.Tw.encI .u32) AK1 ks1) (hqL1 : Rd w 4 encL AL1 ls1) (hlS1 : xs1.length ≤ 1099511627776) (hlN1 : ns1.length ≤ 1099511627776) (hlK1 : ks1.length ≤ 1099511627776) (hlL1 : ls1.length ≤ 1099511627776) (hqS2 : Rd w 4 cellsS AS2 xs2) (hat2 : ∀ s ∈ xs2, svcAt w s) (hqN2 : Rd w 2 cellsN AN2 ns2) (hqK2 : Rd w 1 (Go.Tw.encI .u32) AK2 ks2) (hqL2 : Rd w 4 encL AL2 ls2) (hlS2 : xs2.length ≤ 1099511627776) (hlN2 : ns2.length ≤ 1099511627776) (hlK2 : ks2.length ≤ 1099511627776) (hlL2 : ls2.length ≤ 1099511627776) : Calls Tryd.prog 13 #[.agg #[.int .i64 ce1, .int .i64 cn1, .slice AS1 xs1.length cS1, .slice AN1 ns1.length cN1, .slice AK1 ks1.length cK1, .slice AL1 ls1.length cL1], .agg #[.int .i64 ce2, .int .i64 cn2, .slice AS2 xs2.length cS2, .slice AN2 ns2.length cN2, .slice AK2 ks2.length cK2, .slice AL2 ls2.length cL2]] w fun e w' => e = .returned (.bool (decide ((⟨ce1, cn1, xs1.map (·.v), ns1, ks1, ls1⟩ : CfgV) = (⟨ce2, cn2, xs2.map (·.v), ns2, ks2, ls2⟩ : CfgV)))) ∧ Fr w w' [] := by
 refine enterD (n := 47) Tryd.func13 rfl rfl (Nat.le_of_ble_eq_true rfl) ?_
 intro Q0 hN hret hret'
 have hC := Cx.start w
 refine WCs (fun K1 hK2 => ?_)
 refine WCg ?_
 refine WL.newM hC (fun b => .pointer (some ⟨b, 0, none⟩)) (.cells #[.int .i64 ce1, .int .i64 cn1, .slice AS1 xs1.length cS1, .slice AN1 ns1.length cN1, .slice AK1 ks1.length cK1, .slice AL1 ls1.length cL1] 31) 2 (fun _ => by kernel_rfl) (fun g3 w4 hb7 hF5 hC6 => ?_)
 refine WL.newM hC6 (fun b => .pointer (some ⟨b, 0, none⟩)) (.cells #[.int .i64 ce2, .int .i64 cn2, .slice AS2 xs2.length cS2, .slice AN2 ns2.length cN2, .slice AK2 ks2.length cK2, .slice AL2 ls2.length cL2] 31) 3 (fun _ => by kernel_rfl) (fun g8 w9 hb12 hF10 hC11 => ?_)
 refine WLr 1 [(4, .bool false)] (fun _ => by kernel_rfl) (WLd rfl (QXn (hK2 _ _ ?_)))
 refine WCs (fun K13 hK14 => ?_)
 refine WCg (WLr 1 [(5, .func (.func 29) #[] #[])] (fun _ => by kernel_rfl) (WLd rfl (QXn (hK14 _ _ ?_))))
 refine WCs (fun K15 hK16 => ?_)
 refine WCg (WLr 1 [(6, .pointer (some ⟨g3, 0, none⟩))] (fun _ => by kernel_rfl) ?_)
 refine WL.load 3 (.pointer (some ⟨g3, 0, none⟩)) (.int .i64 ce1) 7 (by kernel_rfl) (run_ld (hC11.get 0 rfl) rfl) ?_
 refine WLr 1 [(8, .pointer (some ⟨g8, 0, none⟩))] (fun _ => by kernel_rfl) ?_
 refine WL.load 3 (.pointer (some ⟨g8, 0, none⟩)) (.int .i64 ce2) 9 (by kernel_rfl) (run_ld (hC11.get 1 rfl) rfl) ?_
 refine WLr 2 [(11, .bool (ce1 == ce2)), (10, .bool (ce1 == ce2))] (fun _ => by kernel_rfl) ?_
 refine WLa 11 (ce1 == ce2) rfl (fun t17b => ?_) (fun t17b => ?_)
 ·
  have t17 : ce1 = ce2 := by simpa using t17b
  refine WLr 1 [(12, .pointer (some ⟨g3, 1, none⟩))] (fun _ => by kernel_rfl) ?_
  refine WL.load 3 (.pointer (some ⟨g3, 1, none⟩)) (.int .i64 cn1) 13 (by kernel_rfl) (run_ld (hC11.get 0 rfl) rfl) ?_
  refine WLr 1 [(14, .pointer (some ⟨g8, 1, none⟩))] (fun _ => by kernel_rfl) ?_
  refine WL.load 3 (.pointer (some ⟨g8, 1, none⟩)) (.int .i64 cn2) 15 (by kernel_rfl) (run_ld (hC11.get 1 rfl) rfl) ?_
  refine WLr 3 [(18, .bool (cn1 == cn2)), (17, .bool (cn1 == cn2)), (16, .bool (cn1 == cn2))] (fun _ => by kernel_rfl) ?_
  refine WLa 18 (cn1 == cn2) rfl (fun t18b => ?_) (fun t18b => ?_)
  ·
   have t18 : cn1 = cn2 := by simpa using t18b
   refine WLr 1 [(19, .pointer (some ⟨g3, 2, none⟩))] (fun _ => by kernel_rfl) ?_
   refine WL.load 26 (.pointer (some ⟨g3, 2, none⟩)) (.slice AS1 xs1.length cS1) 20 (by kernel_rfl) (run_ld (hC11.get 0 rfl) rfl) ?_
   refine WLr 1 [(21, .pointer (some ⟨g8, 2, none⟩))] (fun _ => by kernel_rfl) ?_
   refine WL.load 26 (.pointer (some ⟨g8, 2, none⟩)) (.slice AS2 xs2.length cS2) 22 (by kernel_rfl) (run_ld (hC11.get 1 rfl) rfl) ?_
   refine WLr 1 [(23, .func (.func 29) #[] #[])] (fun _ => by kernel_rfl) ?_
   refine WLc rfl rfl rfl rfl rfl (by kernel_rfl) (eqFuncS_n AS1 AS2 xs1.length cS1 xs2.length cS2 xs1 xs2 w9 (Rd.fr hqS1 hC11.fr) (Rd.fr hqS2 hC11.fr) (fun s_ h_ => (hat1 s_ h_).fr hC11.fr (fun _ _ => by simp)) (fun s_ h_ => (hat2 s_ h_).fr hC11.fr (fun _ _ => by simp)) rfl rfl (by omega)) ?_
   rintro _ w20 ⟨rfl, hF19⟩
   refine ⟨_, rfl, ?_⟩
   have hC21 := hC11.call hF19
   refine WLr 2 [(26, .bool (decide (xs1.map (·.v) = xs2.map (·.v)))), (25, .bool (decide (xs1.map (·.v) = xs2.map (·.v))))] (fun _ => by kernel_rfl) ?_
   refine WLa 26 (decide (xs1.map (·.v) = xs2.map (·.v))) rfl (fun t22b => ?_) (fun t22b => ?_)
   ·
    have t22 : xs1.map (·.v) = xs2.map (·.v) := of_decide_eq_true t22b
    refine WLr 1 [(27, .pointer (some ⟨g3, 3, none⟩))] (fun _ => by kernel_rfl) ?_
    refine WL.load 27 (.pointer (some ⟨g3, 3, none⟩)) (.slice AN1 ns1.length cN1) 28 (by kernel_rfl) (run_ld (hC21.get 0 rfl) rfl) ?_
    refine WLr 1 [(29, .pointer (some ⟨g8, 3, none⟩))] (fun _ => by kernel_rfl) ?_
    refine WL.load 27 (.pointer (some ⟨g8, 3, none⟩)) (.slice AN2 ns2.length cN2) 30 (by kernel_rfl) (run_ld (hC21.get 1 rfl) rfl) ?_
    refine WLc rfl rfl rfl rfl rfl (by kernel_rfl) (eqN_n AN1 AN2 ns1.length cN1 ns2.length cN2 ns1 ns2 w20 (Rd.fr hqN1 hC21.fr) (Rd.fr hqN2 hC21.fr) (by first | rfl | assumption | (simp; done) | (simp; omega)) (by first | rfl | assumption | (simp; done) | (simp; omega)) (by omega)) ?_
    rintro _ w24 ⟨rfl, hF23⟩
    refine ⟨_, rfl, ?_⟩
    have hC25 := hC21.call hF23
    refine WLr 2 [(33, .bool (decide (ns1 = ns2))), (32, .bool (decide (ns1 = ns2)))] (fun _ => by kernel_rfl) ?_
    refine WLa 33 (decide (ns1 = ns2)) rfl (fun t26b => ?_) (fun t26b => ?_)
    ·
     have t26 : ns1 = ns2 := of_decide_eq_true t26b
     refine WLr 1 [(34, .pointer (some ⟨g3, 4, none⟩))] (fun _ => by kernel_rfl) ?_
     refine WL.load 28 (.pointer (some ⟨g3, 4, none⟩)) (.slice AK1 ks1.length cK1) 35 (by kernel_rfl) (run_ld (hC25.get 0 rfl) rfl) ?_
     refine WLr 1 [(36, .pointer (some ⟨g8, 4, none⟩))] (fun _ => by kernel_rfl) ?_
     refine WL.load 28 (.pointer (some ⟨g8, 4, none⟩)) (.slice AK2 ks2.length cK2) 37 (by kernel_rfl) (run_ld (hC25.get 1 rfl) rfl) ?_
     refine WLc rfl rfl rfl rfl rfl (by kernel_rfl) (eqA_n AK1 AK2 ks1.length cK1 ks2.length cK2 ks1 ks2 w24 (Rd.fr hqK1 hC25.fr) (Rd.fr hqK2 hC25.fr) (by first | rfl | assumption | (simp; done) | (simp; omega)) (by first | rfl | assumption | (simp; done) | (simp; omega)) (by omega)) ?_
     rintro _ w28 ⟨rfl, hF27⟩
     refine ⟨_, rfl, ?_⟩
     have hC29 := hC25.call hF27
     refine WLr 2 [(40, .bool (decide (ks1 = ks2))), (39, .bool (decide (ks1 = ks2)))] (fun _ => by kernel_rfl) ?_
     refine WLa 40 (decide (ks1 = ks2)) rfl (fun t30b => ?_) (fun t30b => ?_)
     ·
      have t30 : ks1 = ks2 := of_decide_eq_true t30b
      refine WLr 1 [(41, .pointer (some ⟨g3, 5, none⟩))] (fun _ => by kernel_rfl) ?_
      refine WL.load 29 (.pointer (some ⟨g3, 5, none⟩)) (.slice AL1 ls1.length cL1) 42 (by kernel_rfl) (run_ld (hC29.get 0 rfl) rfl) ?_
      refine WLr 1 [(43, .pointer (some ⟨g8, 5, none⟩))] (fun _ => by kernel_rfl) ?_
      refine WL.load 29 (.pointer (some ⟨g8, 5, none⟩)) (.slice AL2 ls2.length cL2) 44 (by kernel_rfl) (run_ld (hC29.get 1 rfl) rfl) ?_
      refine WLc rfl rfl rfl rfl rfl (by kernel_rfl) (eqL_n AL1 AL2 ls1.length cL1 ls2.length cL2 ls1 ls2 w28 (Rd.fr hqL1 hC29.fr) (Rd.fr hqL2 hC29.fr) (by first | rfl | assumption | (simp; done) | (simp; omega)) (by first | rfl | assumption | (simp; done) | (simp; omega)) (by omega)) ?_
      rintro _ w32 ⟨rfl, hF31⟩
      refine ⟨_, rfl, ?_⟩
      have hC33 := hC29.call hF31
      refine WLr 2 [(4, .bool (decide (ls1 = ls2))), (46, .bool (decide (ls1 = ls2)))] (fun _ => by kernel_rfl) (WLd rfl (QXn (hK16 _ _ ?_)))
      refine WC.ret ?_
      refine (hret _ _ _ rfl ?_).1
      exact ⟨congrArg (fun b_ => Ending.returned (Value.bool b_)) (dec_of ⟨fun h_ => cfg_ext.2 ⟨(by simpa using t17b), (by simpa using t18b), (by simpa using t22b), (by simpa using t26b), (by simpa using t30b), h_⟩, fun h_ => (cfg_ext.1 h_).2.2.2.2.2⟩), hC33.fr⟩
     ·
      have t30 : ¬ (ks1 = ks2) := of_decide_eq_false t30b
      refine WLr 7 [(4, .bool false), (46, .bool false), (45, undef), (44, undef), (43, undef), (42, undef), (41, undef)] (fun _ => by kernel_rfl) (WLd rfl (QXn (hK16 _ _ ?_)))
      refine WC.ret ?_
      refine (hret _ _ _ rfl ?_).1
      exact ⟨congrArg (fun b_ => Ending.returned (Value.bool b_)) (decide_eq_false (fun e_ => by have q_ := (cfg_ext.1 e_).2.2.2.2.1; first | (exact absurd q_ (by simpa using t30b)) | (dsimp only at q_; simp [q_] at t30b))).symm, hC29.fr⟩
    ·
     have t26 : ¬ (ns1 = ns2) := of_decide_eq_false t26b
     refine WLr 14 [(4, .bool false), (46, .bool false), (45, undef), (44, undef), (43, undef), (42, undef), (41, undef), (40, .bool false), (39, .bool false), (38, undef), (37, undef), (36, undef), (35, undef), (34, undef)] (fun _ => by kernel_rfl) (WLd rfl (QXn (hK16 _ _ ?_)))
     refine WC.ret ?_
     refine (hret _ _ _ rfl ?_).1
     exact ⟨congrArg (fun b_ => Ending.returned (Value.bool b_)) (decide_eq_false (fun e_ => by have q_ := (cfg_ext.1 e_).2.2.2.1; first | (exact absurd q_ (by simpa using t26b)) | (dsimp only at q_; simp [q_] at t26b))).symm, hC25.fr⟩
   ·
    have t22 : ¬ (xs1.map (·.v) = xs2.map (·.v)) := of_decide_eq_false t22b
    refine WLr 21 [(4, .bool false), (46, .bool false), (45, undef), (44, undef), (43, undef), (42, undef), (41, undef), (40, .bool false), (39, .bool false), (38, undef), (37, undef), (36, undef), (35, undef), (34, undef), (33, .bool false), (32, .bool false), (31, undef), (30, undef), (29, undef), (28, undef), (27, undef)] (fun _ => by kernel_rfl) (WLd rfl (QXn (hK16 _ _ ?_)))
    refine WC.ret ?_
    refine (hret _ _ _ rfl ?_).1
    exact ⟨congrArg (fun b_ => Ending.returned (Value.bool b_)) (decide_eq_false (fun e_ => by have q_ := (cfg_ext.1 e_).2.2.1; first | (exact absurd q_ (by simpa using t22b)) | (dsimp only at q_; simp [q_] at t22b))).symm, hC21.fr⟩
  ·
   have t18 : ¬ (cn1 = cn2) := by simpa using t18b
   refine WLr 29 [(4, .bool false), (46, .bool false), (45, undef), (44, undef), (43, undef), (42, undef), (41, undef), (40, .bool false), (39, .bool false), (38, undef), (37, undef), (36, undef), (35, undef), (34, undef), (33, .bool false), (32, .bool false), (31, undef), (30, undef), (29, undef), (28, undef), (27, undef), (26, .bool false), (25, .bool false), (24, undef), (23, undef), (22, undef), (21, undef), (20, undef), (19, undef)] (fun _ => by kernel_rfl) (WLd rfl (QXn (hK16 _ _ ?_)))
   refine WC.ret ?_
   refine (hret _ _ _ rfl ?_).1
   exact ⟨congrArg (fun b_ => Ending.returned (Value.bool b_)) (decide_eq_false (fun e_ => by have q_ := (cfg_ext.1 e_).2.1; first | (exact absurd q_ (by simpa using t18b)) | (dsimp only at q_; simp [q_] at t18b))).symm, hC11.fr⟩
 ·
  have t17 : ¬ (ce1 = ce2) := by simpa using t17b
  refine WLr 36 [(4, .bool false), (46, .bool false), (45, undef), (44, undef), (43, undef), (42, undef), (41, undef), (40, .bool false), (39, .bool false), (38, undef), (37, undef), (36, undef), (35, undef), (34, undef), (33, .bool false), (32, .bool false), (31, undef), (30, undef), (29, undef), (28, undef), (27, undef), (26, .bool false), (25, .bool false), (24, undef), (23, undef), (22, undef), (21, undef), (20, undef), (19, undef), (18, .bool false), (17, .bool false), (16, undef), (15, undef), (14, undef), (13, undef), (12, undef)] (fun _ => by kernel_rfl) (WLd rfl (QXn (hK16 _ _ ?_)))
  refine WC.ret ?_
  refine (hret _ _ _ rfl ?_).1
  exact ⟨congrArg (fun b_ => Ending.returned (Value.bool b_)) (decide_eq_false (fun e_ => by have q_ := (cfg_ext.1 e_).1; first | (exact absurd q_ (by simpa using t17b)) | (dsimp only at q_; simp [q_] at t17b))).symm, hC11.fr⟩

theorem named_ct (a b : Svc) (w : World) : Calls Tryd.prog 38 #[.agg #[.int .u32 a.v.vip, .int .i64 a.v.proto, .int .i64 a.v.port, .slice a.a a.v.ends.length a.c], .agg #[.int .u32 b.v.vip, .int .i64 b.v.proto, .int .i64 b.v.port, .slice b.a b.v.ends.length b.c]] w fun e w' => e = .returned (.bool (decide (kS a = kS b))) ∧ Fr w w' [] := by
 refine enterD (n := 24) Tryd.func38 rfl rfl (Nat.le_of_ble_eq_true rfl) ?_
 intro Q0 hN hret hret'
 have hC := Cx.start w
 refine WCs (fun K1 hK2 => ?_)
 refine WCg ?_
 refine WL.newM hC (fun b => .pointer (some ⟨b, 0, none⟩)) (.cells #[.int .u32 a.v.vip, .int .i64 a.v.proto, .int .i64 a.v.port, .slice a.a a.v.ends.length a.c] 52) 2 (fun _ => by kernel_rfl) (fun g3 w4 hb7 hF5 hC6 => ?_)
 refine WL.newM hC6 (fun b => .pointer (some ⟨b, 0, none⟩)) (.cells #[.int .u32 b.v.vip, .int .i64 b.v.proto, .int .i64 b.v.port, .slice b.a b.v.ends.length b.c] 52) 3 (fun _ => by kernel_rfl) (fun g8 w9 hb12 hF10 hC11 => ?_)
 refine WLr 1 [(4, .bool false)] (fun _ => by kernel_rfl) (WLd rfl (QXn (hK2 _ _ ?_)))
 refine WCs (fun K13 hK14 => ?_)
 refine WCg (WLr 1 [(5, .pointer (some ⟨g3, 0, none⟩))] (fun _ => by kernel_rfl) ?_)
 refine WL.load 41 (.pointer (some ⟨g3, 0, none⟩)) (.int .u32 a.v.vip) 6 (by kernel_rfl) (run_ld (hC11.get 0 rfl) rfl) ?_
 refine WLr 1 [(7, .pointer (some ⟨g8, 0, none⟩))] (fun _ => by kernel_rfl) ?_
 refine WL.load 41 (.pointer (some ⟨g8, 0, none⟩)) (.int .u32 b.v.vip) 8 (by kernel_rfl) (run_ld (hC11.get 1 rfl) rfl) ?_
 refine WLr 2 [(10, .bool (a.v.vip == b.v.vip)), (9, .bool (a.v.vip == b.v.vip))] (fun _ => by kernel_rfl) ?_
 refine WLa 10 (a.v.vip == b.v.vip) rfl (fun t15b => ?_) (fun t15b => ?_)
 ·
  have t15 : a.v.vip = b.v.vip := by simpa using t15b
  refine WLr 1 [(11, .pointer (some ⟨g3, 1, none⟩))] (fun _ => by kernel_rfl) ?_
  refine WL.load 3 (.pointer (some ⟨g3, 1, none⟩)) (.int .i64 a.v.proto) 12 (by kernel_rfl) (run_ld (hC11.get 0 rfl) rfl) ?_
  refine WLr 1 [(13, .pointer (some ⟨g8, 1, none⟩))] (fun _ => by kernel_rfl) ?_
  refine WL.load 3 (.pointer (some ⟨g8, 1, none⟩)) (.int .i64 b.v.proto) 14 (by kernel_rfl) (run_ld (hC11.get 1 rfl) rfl) ?_
  refine WLr 3 [(17, .bool (a.v.proto == b.v.proto)), (16, .bool (a.v.proto == b.v.proto)), (15, .bool (a.v.proto == b.v.proto))] (fun _ => by kernel_rfl) ?_
  refine WLa 17 (a.v.proto == b.v.proto) rfl (fun t16b => ?_) (fun t16b => ?_)
  ·
   have t16 : a.v.proto = b.v.proto := by simpa using t16b
   refine WLr 1 [(18, .pointer (some ⟨g3, 2, none⟩))] (fun _ => by kernel_rfl) ?_
   refine WL.load 3 (.pointer (some ⟨g3, 2, none⟩)) (.int .i64 a.v.port) 19 (by kernel_rfl) (run_ld (hC11.get 0 rfl) rfl) ?_
   refine WLr 1 [(20, .pointer (some ⟨g8, 2, none⟩))] (fun _ => by kernel_rfl) ?_
   refine WL.load 3 (.pointer (some ⟨g8, 2, none⟩)) (.int .i64 b.v.port) 21 (by kernel_rfl) (run_ld (hC11.get 1 rfl) rfl) ?_
   refine WLr 3 [(4, .bool (a.v.port == b.v.port)), (23, .bool (a.v.port == b.v.port)), (22, .bool (a.v.port == b.v.port))] (fun _ => by kernel_rfl) (WLd rfl (QXn (hK14 _ _ ?_)))
   refine WC.ret ?_
   refine (hret _ _ _ rfl ?_).1
   exact ⟨congrArg (fun b_ => Ending.returned (Value.bool b_)) (show (a.v.port == b.v.port) = _ from by rw [Bool.eq_iff_iff, decide_eq_true_eq, k3_eq, beq_iff_eq]; simp only [kS, kV]; exact ⟨fun h_ => ⟨by simpa using t15b, by simpa using t16b, h_⟩, fun h_ => h_.2.2⟩), hC11.fr⟩
  ·
   have t16 : ¬ (a.v.proto = b.v.proto) := by simpa using t16b
   refine WLr 7 [(4, .bool false), (23, .bool false), (22, undef), (21, undef), (20, undef), (19, undef), (18, undef)] (fun _ => by kernel_rfl) (WLd rfl (QXn (hK14 _ _ ?_)))
   refine WC.ret ?_
   refine (hret _ _ _ rfl ?_).1
   exact ⟨congrArg (fun b_ => Ending.returned (Value.bool b_)) (decide_eq_false (fun e_ => by have q_ := k3_eq.1 e_; simp only [kS, kV] at q_; exact absurd q_.2.1 (by simpa using t16b))).symm, hC11.fr⟩
 ·
  have t15 : ¬ (a.v.vip = b.v.vip) := by simpa using t15b
  refine WLr 14 [(4, .bool false), (23, .bool false), (22, undef), (21, undef), (20, undef), (19, undef), (18, undef), (17, .bool false), (16, .bool false), (15, undef), (14, undef), (13, undef), (12, undef), (11, undef)] (fun _ => by kernel_rfl) (WLd rfl (QXn (hK14 _ _ ?_)))
  refine WC.ret ?_
  refine (hret _ _ _ rfl ?_).1
  exact ⟨congrArg (fun b_ => Ending.returned (Value.bool b_)) (decide_eq_false (fun e_ => by have q_ := k3_eq.1 e_; simp only [kS, kV] at q_; exact absurd q_.1 (by simpa using t15b))).symm, hC11.fr⟩

set_option maxHeartbeats 2000000 in
theorem RSame_ct (ce1 cn1 : Int) (AS1 : Option Addr) (cS1 : Nat) (xs1 : List Svc) (AN1 : Option Addr) (cN1 : Nat) (ns1 : List SnatV) (AK1 : Option Addr) (cK1 : Nat) (ks1 : List Int) (AL1 : Option Addr) (cL1 : Nat) (ls1 : List Lease) (ce2 cn2 : Int) (AS2 : Option Addr) (cS2 : Nat) (xs2 : List Svc) (AN2 : Option Addr) (cN2 : Nat) (ns2 : List SnatV) (AK2 : Option Addr) (cK2 : Nat) (ks2 : List Int) (AL2 : Option Addr) (cL2 : Nat) (ls2 : List Lease) (w : World) (hqS1 : Rd w 4 cellsS AS1 xs1) (hat1 : ∀ s ∈ xs1, svcAt w s) (hqN1 : Rd w 2 cellsN AN1 ns1) (hqK1 : Rd w 1 (Go.Tw.encI .u32) AK1 ks1) (hqL1 : Rd w 4 encL AL1 ls1) (hlS1 : xs1.length ≤ 1099511627776) (hlN1 : ns1.length ≤ 1099511627776) (hlK1 : ks1.length ≤ 1099511627776) (hlL1 : ls1.length ≤ 1099511627776) (hqS2 : Rd w 4 cellsS AS2 xs2) (hat2 : ∀ s ∈ xs2, svcAt w s) (hqN2 : Rd w 2 cellsN AN2 ns2) (hqK2 : Rd w 1 (Go.Tw.encI .u32) AK2 ks2) (hqL2 : Rd w 4 encL AL2 ls2) (hlS2 : xs2.length ≤ 1099511627776) (hlN2 : ns2.length ≤ 1099511627776) (hlK2 : ks2.length ≤ 1099511627776) (hlL2 : ls2.length ≤ 1099511627776) : Calls Tryd.prog 14 #[.agg #[.int .i64 ce1, .int .i64 cn1, .slice AS1 xs1.length cS1, .slice AN1 ns1.length cN1, .slice AK1 ks1.length cK1, .slice AL1 ls1.length cL1], .agg #[.int .i64 ce2, .int .i64 cn2, .slice AS2 xs2.length cS2, .slice AN2 ns2.length cN2, .slice AK2 ks2.length cK2, .slice AL2 ls2.length cL2]] w fun e w' => e = .returned (.bool (decide ((⟨ce1, cn1, xs1.map (·.v), ns1, ks1, ls1⟩ : CfgV) = (⟨ce2, cn2, xs2.map (·.v), ns2, ks2, ls2⟩ : CfgV)))) ∧ Fr w w' [] := by
 refine enterD (n := 106) Tryd.func14 rfl rfl (Nat.le_of_ble_eq_true rfl) ?_
 intro Q0 hN hret hret'
 have hC := Cx.start w
 refine WCs (fun K1 hK2 => ?_)
 refine WCg ?_
 refine WL.newM hC (fun b => .pointer (some ⟨b, 0, none⟩)) (.cells #[.int .i64 ce1, .int .i64 cn1, .slice AS1 xs1.length cS1, .slice AN1 ns1.length cN1, .slice AK1 ks1.length cK1, .slice AL1 ls1.length cL1] 31) 2 (fun _ => by kernel_rfl) (fun g3 w4 hb7 hF5 hC6 => ?_)
 refine WL.newM hC6 (fun b => .pointer (some ⟨b, 0, none⟩)) (.cells #[.int .i64 ce2, .int .i64 cn2, .slice AS2 xs2.length cS2, .slice AN2 ns2.length cN2, .slice AK2 ks2.length cK2, .slice AL2 ls2.length cL2] 31) 3 (fun _ => by kernel_rfl) (fun g8 w9 hb12 hF10 hC11 => ?_)
 refine WLr 1 [(4, .bool false)] (fun _ => by kernel_rfl) (WLd rfl (QXn (hK2 _ _ ?_)))
 refine WCs (fun K13 hK14 => ?_)
 refine WCs (fun K15 hK16 => ?_)
 refine WCg (WLr 1 [(7, .pointer (some ⟨g3, 0, none⟩))] (fun _ => by kernel_rfl) ?_)
 refine WL.load 3 (.pointer (some ⟨g3, 0, none⟩)) (.int .i64 ce1) 8 (by kernel_rfl) (run_ld (hC11.get 0 rfl) rfl) ?_
 refine WLr 1 [(9, .pointer (some ⟨g8, 0, none⟩))] (fun _ => by kernel_rfl) ?_
 refine WL.load 3 (.pointer (some ⟨g8, 0, none⟩)) (.int .i64 ce2) 10 (by kernel_rfl) (run_ld (hC11.get 1 rfl) rfl) ?_
 refine WLr 2 [(12, .bool (ce1 != ce2)), (11, .bool (ce1 != ce2))] (fun _ => by kernel_rfl) ?_
 refine WLa 12 (ce1 != ce2) rfl (fun t17b => ?_) (fun t17b => ?_)
 ·
  have t17 : ce1 ≠ ce2 := by simpa using t17b
  refine WLr 40 [(52, .bool true), (51, undef), (50, undef), (49, undef), (48, undef), (47, undef), (46, undef), (45, .bool true), (44, .bool true), (43, undef), (42, undef), (41, undef), (40, undef), (39, undef), (38, undef), (37, .bool true), (36, .bool true), (35, undef), (34, undef), (33, undef), (32, undef), (31, undef), (30, undef), (29, undef), (28, .bool true), (27, .bool true), (26, undef), (25, undef), (24, undef), (23, undef), (22, undef), (21, undef), (20, undef), (19, .bool true), (18, .bool true), (17, undef), (16, undef), (15, undef), (14, undef), (13, undef)] (fun _ => by kernel_rfl) (WLd rfl (QXn (hK16 _ _ ?_)))
  refine WCt rfl ?_
  refine WCs (fun K18 hK19 => ?_)
  refine WCg (WLr 1 [(4, .bool false)] (fun _ => by kernel_rfl) (WLd rfl (QXn (hK19 _ _ ?_))))
  refine WC.ret ?_
  refine QXr ?_
  refine (hret _ _ _ rfl ?_).1
  exact ⟨congrArg (fun b_ => Ending.returned (Value.bool b_)) (decide_eq_false (fun e_ => by exact absurd (cfg_ext.1 e_).1 (by simpa using t17b))).symm, hC11.fr⟩
 ·
  have t17 : ce1 = ce2 := by simpa using t17b
  refine WLr 1 [(13, .pointer (some ⟨g3, 1, none⟩))] (fun _ => by kernel_rfl) ?_
  refine WL.load 3 (.pointer (some ⟨g3, 1, none⟩)) (.int .i64 cn1) 14 (by kernel_rfl) (run_ld (hC11.get 0 rfl) rfl) ?_
  refine WLr 1 [(15, .pointer (some ⟨g8, 1, none⟩))] (fun _ => by kernel_rfl) ?_
  refine WL.load 3 (.pointer (some ⟨g8, 1, none⟩)) (.int .i64 cn2) 16 (by kernel_rfl) (run_ld (hC11.get 1 rfl) rfl) ?_
  refine WLr 3 [(19, .bool (cn1 != cn2)), (18, .bool (cn1 != cn2)), (17, .bool (cn1 != cn2))] (fun _ => by kernel_rfl) ?_
  refine WLa 19 (cn1 != cn2) rfl (fun t20b => ?_) (fun t20b => ?_)
  ·
   have t20 : cn1 ≠ cn2 := by simpa using t20b
   refine WLr 33 [(52, .bool true), (51, undef), (50, undef), (49, undef), (48, undef), (47, undef), (46, undef), (45, .bool true), (44, .bool true), (43, undef), (42, undef), (41, undef), (40, undef), (39, undef), (38, undef), (37, .bool true), (36, .bool true), (35, undef), (34, undef), (33, undef), (32, undef), (31, undef), (30, undef), (29, undef), (28, .bool true), (27, .bool true), (26, undef), (25, undef), (24, undef), (23, undef), (22, undef), (21, undef), (20, undef)] (fun _ => by kernel_rfl) (WLd rfl (QXn (hK16 _ _ ?_)))
   refine WCt rfl ?_
   refine WCs (fun K21 hK22 => ?_)
   refine WCg (WLr 1 [(4, .bool false)] (fun _ => by kernel_rfl) (WLd rfl (QXn (hK22 _ _ ?_))))
   refine WC.ret ?_
   refine QXr ?_
   refine (hret _ _ _ rfl ?_).1
   exact ⟨congrArg (fun b_ => Ending.returned (Value.bool b_)) (decide_eq_false (fun e_ => by exact absurd (cfg_ext.1 e_).2.1 (by simpa using t20b))).symm, hC11.fr⟩
  ·
   have t20 : cn1 = cn2 := by simpa using t20b
   refine WLr 1 [(20, .pointer (some ⟨g3, 2, none⟩))] (fun _ => by kernel_rfl) ?_
   refine WL.load 26 (.pointer (some ⟨g3, 2, none⟩)) (.slice AS1 xs1.length cS1) 21 (by kernel_rfl) (run_ld (hC11.get 0 rfl) rfl) ?_
   refine WLr 2 [(23, .pointer (some ⟨g8, 2, none⟩)), (22, .int .i64 (xs1.length : Int))] (fun _ => by kernel_rfl) ?_
   refine WL.load 26 (.pointer (some ⟨g8, 2, none⟩)) (.slice AS2 xs2.length cS2) 24 (by kernel_rfl) (run_ld (hC11.get 1 rfl) rfl) ?_
   refine WLr 4 [(28, .bool ((xs1.length : Int) != (xs2.length : Int))), (27, .bool ((xs1.length : Int) != (xs2.length : Int))), (26, .bool ((xs1.length : Int) != (xs2.length : Int))), (25, .int .i64 (xs2.length : Int))] (fun _ => by kernel_rfl) ?_
   refine WLa 28 ((xs1.length : Int) != (xs2.length : Int)) rfl (fun t23b => ?_) (fun t23b => ?_)
   ·
    have t23 : (xs1.length : Int) ≠ (xs2.length : Int) := by simpa using t23b
    refine WLr 24 [(52, .bool true), (51, undef), (50, undef), (49, undef), (48, undef), (47, undef), (46, undef), (45, .bool true), (44, .bool true), (43, undef), (42, undef), (41, undef), (40, undef), (39, undef), (38, undef), (37, .bool true), (36, .bool true), (35, undef), (34, undef), (33, undef), (32, undef), (31, undef), (30, undef), (29, undef)] (fun _ => by kernel_rfl) (WLd rfl (QXn (hK16 _ _ ?_)))
    refine WCt rfl ?_
    refine WCs (fun K24 hK25 => ?_)
    refine WCg (WLr 1 [(4, .bool false)] (fun _ => by kernel_rfl) (WLd rfl (QXn (hK25 _ _ ?_))))
    refine WC.ret ?_
    refine QXr ?_
    refine (hret _ _ _ rfl ?_).1
    exact ⟨congrArg (fun b_ => Ending.returned (Value.bool b_)) (decide_eq_false (fun e_ => by have q_ := congrArg List.length (cfg_ext.1 e_).2.2.1; simp only [List.length_map] at q_; omega)).symm, hC11.fr⟩
   ·
    have t23 : (xs1.length : Int) = (xs2.length : Int) := by simpa using t23b
    refine WLr 1 [(29, .pointer (some ⟨g3, 3, none⟩))] (fun _ => by kernel_rfl) ?_
    refine WL.load 27 (.pointer (some ⟨g3, 3, none⟩)) (.slice AN1 ns1.length cN1) 30 (by kernel_rfl) (run_ld (hC11.get 0 rfl) rfl) ?_
    refine WLr 2 [(32, .pointer (some ⟨g8, 3, none⟩)), (31, .int .i64 (ns1.length : Int))] (fun _ => by kernel_rfl) ?_
    refine WL.load 27 (.pointer (some ⟨g8, 3, none⟩)) (.slice AN2 ns2.length cN2) 33 (by kernel_rfl) (run_ld (hC11.get 1 rfl) rfl) ?_
    refine WLr 4 [(37, .bool ((ns1.length : Int) != (ns2.length : Int))), (36, .bool ((ns1.length : Int) != (ns2.length : Int))), (35, .bool ((ns1.length : Int) != (ns2.length : Int))), (34, .int .i64 (ns2.length : Int))] (fun _ => by kernel_rfl) ?_
    refine WLa 37 ((ns1.length : Int) != (ns2.length : Int)) rfl (fun t26b => ?_) (fun t26b => ?_)
    ·
     have t26 : (ns1.length : Int) ≠ (ns2.length : Int) := by simpa using t26b
     refine WLr 15 [(52, .bool true), (51, undef), (50, undef), (49, undef), (48, undef), (47, undef), (46, undef), (45, .bool true), (44, .bool true), (43, undef), (42, undef), (41, undef), (40, undef), (39, undef), (38, undef)] (fun _ => by kernel_rfl) (WLd rfl (QXn (hK16 _ _ ?_)))
     refine WCt rfl ?_
     refine WCs (fun K27 hK28 => ?_)
     refine WCg (WLr 1 [(4, .bool false)] (fun _ => by kernel_rfl) (WLd rfl (QXn (hK28 _ _ ?_))))
     refine WC.ret ?_
     refine QXr ?_
     refine (hret _ _ _ rfl ?_).1
     exact ⟨congrArg (fun b_ => Ending.returned (Value.bool b_)) (decide_eq_false (fun e_ => by have q_ := congrArg List.length (cfg_ext.1 e_).2.2.2.1; dsimp only at q_; omega)).symm, hC11.fr⟩
    ·
     have t26 : (ns1.length : Int) = (ns2.length : Int) := by simpa using t26b
     refine WLr 1 [(38, .pointer (some ⟨g3, 4, none⟩))] (fun _ => by kernel_rfl) ?_
     refine WL.load 28 (.pointer (some ⟨g3, 4, none⟩)) (.slice AK1 ks1.length cK1) 39 (by kernel_rfl) (run_ld (hC11.get 0 rfl) rfl) ?_
     refine WLr 1 [(40, .pointer (some ⟨g8, 4, none⟩))] (fun _ => by kernel_rfl) ?_
     refine WL.load 28 (.pointer (some ⟨g8, 4, none⟩)) (.slice AK2 ks2.length cK2) 41 (by kernel_rfl) (run_ld (hC11.get 1 rfl) rfl) ?_
     refine WLc rfl rfl rfl rfl rfl (by kernel_rfl) (sameAddrs_n AK1 AK2 ks1.length cK1 ks2.length cK2 ks1 ks2 w9 (Rd.fr hqK1 hC11.fr) (Rd.fr hqK2 hC11.fr) (by first | rfl | assumption | (simp; done) | (simp; omega)) (by first | rfl | assumption | (simp; done) | (simp; omega)) (by first | omega | assumption)) ?_
     rintro _ w30 ⟨rfl, hF29⟩
     refine ⟨_, rfl, ?_⟩
     have hC31 := hC11.call hF29
     refine WLr 3 [(45, .bool (!(decide (ks1 = ks2)))), (44, .bool (!(decide (ks1 = ks2)))), (43, .bool (!(decide (ks1 = ks2))))] (fun _ => by kernel_rfl) ?_
     refine WLa 45 (!(decide (ks1 = ks2))) rfl (fun t32b => ?_) (fun t32b => ?_)
     ·
      have t32 : (decide (ks1 = ks2)) = false := by first | (simpa only [Bool.not_eq_true', Bool.not_eq_false'] using t32b) | simpa using t32b
      refine WLr 7 [(52, .bool true), (51, undef), (50, undef), (49, undef), (48, undef), (47, undef), (46, undef)] (fun _ => by kernel_rfl) (WLd rfl (QXn (hK16 _ _ ?_)))
      refine WCt rfl ?_
      refine WCs (fun K33 hK34 => ?_)
      refine WCg (WLr 1 [(4, .bool false)] (fun _ => by kernel_rfl) (WLd rfl (QXn (hK34 _ _ ?_))))
      refine WC.ret ?_
      refine QXr ?_
      refine (hret _ _ _ rfl ?_).1
      exact ⟨congrArg (fun b_ => Ending.returned (Value.bool b_)) (decide_eq_false (fun e_ => by exact absurd (cfg_ext.1 e_).2.2.2.2.1 (by simpa using t32))).symm, hC31.fr⟩
     ·
      have t32 : (decide (ks1 = ks2)) = true := by first | (simpa only [Bool.not_eq_true', Bool.not_eq_false'] using t32b) | simpa using t32b
      refine WLr 1 [(46, .pointer (some ⟨g3, 5, none⟩))] (fun _ => by kernel_rfl) ?_
      refine WL.load 29 (.pointer (some ⟨g3, 5, none⟩)) (.slice AL1 ls1.length cL1) 47 (by kernel_rfl) (run_ld (hC31.get 0 rfl) rfl) ?_
      refine WLr 1 [(48, .pointer (some ⟨g8, 5, none⟩))] (fun _ => by kernel_rfl) ?_
      refine WL.load 29 (.pointer (some ⟨g8, 5, none⟩)) (.slice AL2 ls2.length cL2) 49 (by kernel_rfl) (run_ld (hC31.get 1 rfl) rfl) ?_
      refine WLc rfl rfl rfl rfl rfl (by kernel_rfl) (sameLs_n AL1 AL2 ls1.length cL1 ls2.length cL2 ls1 ls2 w30 (Rd.fr hqL1 hC31.fr) (Rd.fr hqL2 hC31.fr) (by first | rfl | assumption | (simp; done) | (simp; omega)) (by first | rfl | assumption | (simp; done) | (simp; omega)) (by first | omega | assumption)) ?_
      rintro _ w36 ⟨rfl, hF35⟩
      refine ⟨_, rfl, ?_⟩
      have hC37 := hC31.call hF35
      refine WLr 2 [(52, .bool (!(decide (ls1 = ls2)))), (51, .bool (!(decide (ls1 = ls2))))] (fun _ => by kernel_rfl) (WLd rfl (QXn (hK16 _ _ ?_)))
      refine WCa 52 (!(decide (ls1 = ls2))) rfl (fun t38b => ?_) (fun t38b => ?_)
      ·
       have t38 : (decide (ls1 = ls2)) = false := by first | (simpa only [Bool.not_eq_true', Bool.not_eq_false'] using t38b) | simpa using t38b
       refine WCt rfl ?_
       refine WCs (fun K39 hK40 => ?_)
       refine WCg (WLr 1 [(4, .bool false)] (fun _ => by kernel_rfl) (WLd rfl (QXn (hK40 _ _ ?_))))
       refine WC.ret ?_
       refine QXr ?_
       refine (hret _ _ _ rfl ?_).1
       exact ⟨congrArg (fun b_ => Ending.returned (Value.bool b_)) (decide_eq_false (fun e_ => by exact absurd (cfg_ext.1 e_).2.2.2.2.2 (by simpa using t38))).symm, hC37.fr⟩
      ·
       have t38 : (decide (ls1 = ls2)) = true := by first | (simpa only [Bool.not_eq_true', Bool.not_eq_false'] using t38b) | simpa using t38b
       refine WCf rfl (WC.skip (QXn (hK14 _ _ ?_)))
       refine WCs (fun K41 hK42 => ?_)
       refine WCs (fun K43 hK44 => ?_)
       refine WCg (WLr 1 [(5, .int .i64 0)] (fun _ => by kernel_rfl) (WLd rfl (QXn (hK44 _ _ ?_))))
       refine WC.block ?_
       have hq1_ : ce1 = ce2 := by simpa using t17b
       have hq2_ : cn1 = cn2 := by simpa using t20b
       have hq3_ : xs1.length = xs2.length := by omega
       have hq4_ : ns1.length = ns2.length := by omega
       have hq5_ : ks1 = ks2 := by simpa using t32b
       have hq6_ : ls1 = ls2 := by simpa using t38b
       refine WC.loop (fun m_ E_ w_ => ∃ (i : Nat), m_ = xs1.length - i ∧ E_ = [(2, .pointer (some ⟨g3, 0, none⟩)), (3, .pointer (some ⟨g8, 0, none⟩)), (5, .int .i64 (i : Int))] ∧ Cx w [] w_ [(g3, .cells #[.int .i64 ce1, .int .i64 cn1, .slice AS1 xs1.length cS1, .slice AN1 ns1.length cN1, .slice AK1 ks1.length cK1, .slice AL1 ls1.length cL1] 31), (g8, .cells #[.int .i64 ce2, .int .i64 cn2, .slice AS2 xs2.length cS2, .slice AN2 ns2.length cN2, .slice AK2 ks2.length cK2, .slice AL2 ls2.length cL2] 31)] [] ∧ (i ≤ xs1.length ∧ (xs1.take i).map (·.v) = (xs2.take i).map (·.v))) ⟨_, _, ⟨0, rfl, rfl, hC37, Nat.zero_le _, rfl⟩, sub_of ⟨rfl, rfl, rfl, trivial⟩⟩ (fun m48 E_ w49 K45 hK46 hI47 => ?_)
       obtain ⟨i, rfl, rfl, hC50, hi, hpre⟩ := hI47
       refine WCs (fun K51 hK52 => ?_)
       refine WCs (fun K53 hK54 => ?_)
       refine WCg (WLr 2 [(54, .pointer (some ⟨g3, 2, none⟩)), (53, .int .i64 (i : Int))] (fun _ => by kernel_rfl) ?_)
       refine WL.load 26 (.pointer (some ⟨g3, 2, none⟩)) (.slice AS1 xs1.length cS1) 55 (by kernel_rfl) (run_ld (hC50.get 0 rfl) rfl) ?_
       refine WLr 2 [(57, .bool (decide ((i : Int) < (xs1.length : Int)))), (56, .int .i64 (xs1.length : Int))] (fun _ => by kernel_rfl) (WLd rfl (QXn (hK54 _ _ ?_)))
       refine WCa 57 (decide ((i : Int) < (xs1.length : Int))) rfl (fun t55b => ?_) (fun t55b => ?_)
       ·
        have t55 : (i : Int) < (xs1.length : Int) := by have q_ := of_decide_eq_true t55b; omega
        refine WCt rfl ?_
        refine WC.skip ?_
        refine QXn (hK52 _ _ ?_)
        refine WCs (fun K56 hK57 => ?_)
        refine WC.block ?_
        refine WCs (fun K58 hK59 => ?_)
        refine WC.drawC hC50 [] (by kernel_rfl) (fun w60 hF61 hC62 hS63 => ?_)
        refine WDp (NPt (NPb (NPt (NPt (NPb (NPt hN)))))) 0 60 (.pointer (some ⟨g3, 2, none⟩)) (by kernel_rfl) (fun _ => by kernel_rfl) hS63 ?_
        refine WDp (NPt (NPb (NPt (NPt (NPb (NPt hN)))))) 2 62 (.int .i64 (i : Int)) (by kernel_rfl) (fun _ => by kernel_rfl) hS63 ?_
        refine WDp (NPt (NPb (NPt (NPt (NPb (NPt hN)))))) 5 65 (.pointer (some ⟨g8, 2, none⟩)) (by kernel_rfl) (fun _ => by kernel_rfl) hS63 ?_
        refine WDp (NPt (NPb (NPt (NPt (NPb (NPt hN)))))) 7 67 (.int .i64 (i : Int)) (by kernel_rfl) (fun _ => by kernel_rfl) hS63 ?_
        refine WDl (NPt (NPb (NPt (NPt (NPb (NPt hN)))))) 1 26 (.pointer (some ⟨g3, 2, none⟩)) (.slice AS1 xs1.length cS1) 61 (by kernel_rfl) (by kernel_rfl) (fun _ hS_ => run_ld (Fr.has hS_ (hC62.get 0 rfl) (by simp)) rfl) hS63 ?_
        obtain ⟨e64, he65⟩ := get_some (xs := xs1) (i := i) (by omega)
        obtain ⟨b66, o68, hA67, hc69⟩ := hqS1.at_ _ _ he65
        have hat_e64 := hat1 _ (List.mem_of_getElem? he65)
        have hal_e64 := hat_e64.lim
        refine WDi (NPt (NPb (NPt (NPt (NPb (NPt hN)))))) 3 AS1 xs1.length cS1 63 .i64 (i : Int) b66 o68 i 4 (by kernel_rfl) (by kernel_rfl) hA67 (by omega) (by omega) (o68 + i * 4) (by first | (simp; done) | omega) hS63 ?_
        refine WDl (NPt (NPb (NPt (NPt (NPb (NPt hN)))))) 4 52 (.pointer (some ⟨b66, o68 + i * 4, none⟩)) (.agg #[.int .u32 e64.v.vip, .int .i64 e64.v.proto, .int .i64 e64.v.port, .slice e64.a e64.v.ends.length e64.c]) 64 (by kernel_rfl) (by kernel_rfl) (fun _ hS_ => run_rdN (l := [.int .u32 e64.v.vip, .int .i64 e64.v.proto, .int .i64 e64.v.port, .slice e64.a e64.v.ends.length e64.c]) rfl rfl (fun j u hu => by have hq_ := Fr.cell hS_ (hC62.fr.cell (hc69 j u hu) (by simp)) (by simp); simpa [Nat.add_assoc] using hq_)) hS63 ?_
        refine WDl (NPt (NPb (NPt (NPt (NPb (NPt hN)))))) 6 26 (.pointer (some ⟨g8, 2, none⟩)) (.slice AS2 xs2.length cS2) 66 (by kernel_rfl) (by kernel_rfl) (fun _ hS_ => run_ld (Fr.has hS_ (hC62.get 1 rfl) (by simp)) rfl) hS63 ?_
        obtain ⟨e70, he71⟩ := get_some (xs := xs2) (i := i) (by omega)
        obtain ⟨b72, o74, hA73, hc75⟩ := hqS2.at_ _ _ he71
        have hat_e70 := hat2 _ (List.mem_of_getElem? he71)
        have hal_e70 := hat_e70.lim
        refine WDi (NPt (NPb (NPt (NPt (NPb (NPt hN)))))) 8 AS2 xs2.length cS2 68 .i64 (i : Int) b72 o74 i 4 (by kernel_rfl) (by kernel_rfl) hA73 (by omega) (by omega) (o74 + i * 4) (by first | (simp; done) | omega) hS63 ?_
        refine WDl (NPt (NPb (NPt (NPt (NPb (NPt hN)))))) 9 52 (.pointer (some ⟨b72, o74 + i * 4, none⟩)) (.agg #[.int .u32 e70.v.vip, .int .i64 e70.v.proto, .int .i64 e70.v.port, .slice e70.a e70.v.ends.length e70.c]) 69 (by kernel_rfl) (by kernel_rfl) (fun _ hS_ => run_rdN (l := [.int .u32 e70.v.vip, .int .i64 e70.v.proto, .int .i64 e70.v.port, .slice e70.a e70.v.ends.length e70.c]) rfl rfl (fun j u hu => by have hq_ := Fr.cell hS_ (hC62.fr.cell (hc75 j u hu) (by simp)) (by simp); simpa [Nat.add_assoc] using hq_)) hS63 ?_
        refine WD.call 10 (by kernel_rfl) rfl rfl rfl rfl rfl (by kernel_rfl) (named_ct e64 e70 w60) ?_
        rintro _ w77 ⟨rfl, hF76⟩
        have hS79 := hS63.trans hF76 (by simp)
        refine ⟨_, rfl, hS79, ?_⟩
        have hC78 := hC62.call hF76
        refine WDp (NPt (NPb (NPt (NPt (NPb (NPt hN)))))) 11 71 (.bool (!(decide (kS e64 = kS e70)))) (by kernel_rfl) (fun _ => by kernel_rfl) hS79 ?_
        refine WDp (NPt (NPb (NPt (NPt (NPb (NPt hN)))))) 12 72 (.bool (!(decide (kS e64 = kS e70)))) (by kernel_rfl) (fun _ => by kernel_rfl) hS79 ?_
        refine WDa 72 (!(decide (kS e64 = kS e70))) rfl (fun t80b => ?_) (fun t80b => ?_)
        ·
         have t80 : (decide (kS e64 = kS e70)) = false := by first | (simpa only [Bool.not_eq_true', Bool.not_eq_false'] using t80b) | simpa using t80b
         refine WDp (NPt (NPb (NPt (NPt (NPb (NPt hN)))))) 13 73 (undef) (by kernel_rfl) (fun _ => by kernel_rfl) hS79 ?_
         refine WDp (NPt (NPb (NPt (NPt (NPb (NPt hN)))))) 14 74 (undef) (by kernel_rfl) (fun _ => by kernel_rfl) hS79 ?_
         refine WDp (NPt (NPb (NPt (NPt (NPb (NPt hN)))))) 15 75 (undef) (by kernel_rfl) (fun _ => by kernel_rfl) hS79 ?_
         refine WDp (NPt (NPb (NPt (NPt (NPb (NPt hN)))))) 16 76 (undef) (by kernel_rfl) (fun _ => by kernel_rfl) hS79 ?_
         refine WDp (NPt (NPb (NPt (NPt (NPb (NPt hN)))))) 17 77 (undef) (by kernel_rfl) (fun _ => by kernel_rfl) hS79 ?_
         refine WDp (NPt (NPb (NPt (NPt (NPb (NPt hN)))))) 18 78 (undef) (by kernel_rfl) (fun _ => by kernel_rfl) hS79 ?_
         refine WDp (NPt (NPb (NPt (NPt (NPb (NPt hN)))))) 19 79 (undef) (by kernel_rfl) (fun _ => by kernel_rfl) hS79 ?_
         refine WDp (NPt (NPb (NPt (NPt (NPb (NPt hN)))))) 20 80 (undef) (by kernel_rfl) (fun _ => by kernel_rfl) hS79 ?_
         refine WDp (NPt (NPb (NPt (NPt (NPb (NPt hN)))))) 21 81 (undef) (by kernel_rfl) (fun _ => by kernel_rfl) hS79 ?_
         refine WDp (NPt (NPb (NPt (NPt (NPb (NPt hN)))))) 22 82 (undef) (by kernel_rfl) (fun _ => by kernel_rfl) hS79 ?_
         refine WDp (NPt (NPb (NPt (NPt (NPb (NPt hN)))))) 23 83 (undef) (by kernel_rfl) (fun _ => by kernel_rfl) hS79 ?_
         refine WDp (NPt (NPb (NPt (NPt (NPb (NPt hN)))))) 24 84 (undef) (by kernel_rfl) (fun _ => by kernel_rfl) hS79 ?_
         refine WDp (NPt (NPb (NPt (NPt (NPb (NPt hN)))))) 25 85 (undef) (by kernel_rfl) (fun _ => by kernel_rfl) hS79 ?_
         refine WDp (NPt (NPb (NPt (NPt (NPb (NPt hN)))))) 26 86 (undef) (by kernel_rfl) (fun _ => by kernel_rfl) hS79 ?_
         refine WDp (NPt (NPb (NPt (NPt (NPb (NPt hN)))))) 27 87 (.bool true) (by kernel_rfl) (fun _ => by kernel_rfl) hS79 ?_
         refine WD.done (by kernel_rfl) ?_
         refine QXn (hK59 _ _ ?_)
         refine WCt rfl ?_
         refine WCs (fun K81 hK82 => ?_)
         refine WCg (WLr 1 [(4, .bool false)] (fun _ => by kernel_rfl) (WLd rfl (QXn (hK82 _ _ ?_))))
         refine WC.ret ?_
         refine QXk ?_
         refine QXr ?_
         refine QXr ?_
         refine QXk ?_
         refine QXr ?_
         refine (hret _ _ _ rfl ?_).1
         exact ⟨congrArg (fun b_ => Ending.returned (Value.bool b_)) (decide_eq_false (fun e_ => eqv_miss he65 he71 (fun q_ => absurd (show kS e64 = kS e70 from by unfold kS; rw [q_]) (by simpa using t80)) (cfg_ext.1 e_).2.2.1)).symm, hC78.fr⟩
        ·
         have t80 : (decide (kS e64 = kS e70)) = true := by first | (simpa only [Bool.not_eq_true', Bool.not_eq_false'] using t80b) | simpa using t80b
         refine WDp (NPt (NPb (NPt (NPt (NPb (NPt hN)))))) 13 73 (.pointer (some ⟨g3, 2, none⟩)) (by kernel_rfl) (fun _ => by kernel_rfl) hS79 ?_
         refine WDp (NPt (NPb (NPt (NPt (NPb (NPt hN)))))) 15 75 (.int .i64 (i : Int)) (by kernel_rfl) (fun _ => by kernel_rfl) hS79 ?_
         refine WDp (NPt (NPb (NPt (NPt (NPb (NPt hN)))))) 19 79 (.pointer (some ⟨g8, 2, none⟩)) (by kernel_rfl) (fun _ => by kernel_rfl) hS79 ?_
         refine WDp (NPt (NPb (NPt (NPt (NPb (NPt hN)))))) 21 81 (.int .i64 (i : Int)) (by kernel_rfl) (fun _ => by kernel_rfl) hS79 ?_
         refine WDl (NPt (NPb (NPt (NPt (NPb (NPt hN)))))) 14 26 (.pointer (some ⟨g3, 2, none⟩)) (.slice AS1 xs1.length cS1) 74 (by kernel_rfl) (by kernel_rfl) (fun _ hS_ => run_ld (Fr.has hS_ (hC62.get 0 rfl) (by simp)) rfl) hS79 ?_
         refine WDi (NPt (NPb (NPt (NPt (NPb (NPt hN)))))) 16 AS1 xs1.length cS1 76 .i64 (i : Int) b66 o68 i 4 (by kernel_rfl) (by kernel_rfl) hA67 (by omega) (by omega) (o68 + i * 4) (by first | (simp; done) | omega) hS79 ?_
         refine WDp (NPt (NPb (NPt (NPt (NPb (NPt hN)))))) 17 77 (.pointer (some ⟨b66, o68 + i * 4 + 3, none⟩)) (by kernel_rfl) (fun _ => by kernel_rfl) hS79 ?_
         refine WDl (NPt (NPb (NPt (NPt (NPb (NPt hN)))))) 18 50 (.pointer (some ⟨b66, o68 + i * 4 + 3, none⟩)) (.slice e64.a e64.v.ends.length e64.c) 78 (by kernel_rfl) (by kernel_rfl) (fun _ hS_ => run_load1 rfl (by simpa [Nat.add_assoc] using Fr.cell hS_ (hC62.fr.cell (hc69 3 _ rfl) (by simp)) (by simp))) hS79 ?_
         refine WDl (NPt (NPb (NPt (NPt (NPb (NPt hN)))))) 20 26 (.pointer (some ⟨g8, 2, none⟩)) (.slice AS2 xs2.length cS2) 80 (by kernel_rfl) (by kernel_rfl) (fun _ hS_ => run_ld (Fr.has hS_ (hC62.get 1 rfl) (by simp)) rfl) hS79 ?_
         refine WDi (NPt (NPb (NPt (NPt (NPb (NPt hN)))))) 22 AS2 xs2.length cS2 82 .i64 (i : Int) b72 o74 i 4 (by kernel_rfl) (by kernel_rfl) hA73 (by omega) (by omega) (o74 + i * 4) (by first | (simp; done) | omega) hS79 ?_
         refine WDp (NPt (NPb (NPt (NPt (NPb (NPt hN)))))) 23 83 (.pointer (some ⟨b72, o74 + i * 4 + 3, none⟩)) (by kernel_rfl) (fun _ => by kernel_rfl) hS79 ?_
         refine WDl (NPt (NPb (NPt (NPt (NPb (NPt hN)))))) 24 50 (.pointer (some ⟨b72, o74 + i * 4 + 3, none⟩)) (.slice e70.a e70.v.ends.length e70.c) 84 (by kernel_rfl) (by kernel_rfl) (fun _ hS_ => run_load1 rfl (by simpa [Nat.add_assoc] using Fr.cell hS_ (hC62.fr.cell (hc75 3 _ rfl) (by simp)) (by simp))) hS79 ?_
         refine WD.call 25 (by kernel_rfl) rfl rfl rfl rfl rfl (by kernel_rfl) (sameEnds_n e64.a e70.a e64.v.ends.length e64.c e70.v.ends.length e70.c e64.v.ends e70.v.ends w77 (Rd.fr hat_e64.rd hC78.fr) (Rd.fr hat_e70.rd hC78.fr) rfl rfl (by first | omega | assumption)) ?_
         rintro _ w92 ⟨rfl, hF91⟩
         have hS94 := hS79.trans hF91 (by simp)
         refine ⟨_, rfl, hS94, ?_⟩
         have hC93 := hC78.call hF91
         refine WDp (NPt (NPb (NPt (NPt (NPb (NPt hN)))))) 26 86 (.bool (!(decide (e64.v.ends = e70.v.ends)))) (by kernel_rfl) (fun _ => by kernel_rfl) hS94 ?_
         refine WDp (NPt (NPb (NPt (NPt (NPb (NPt hN)))))) 27 87 (.bool (!(decide (e64.v.ends = e70.v.ends)))) (by kernel_rfl) (fun _ => by kernel_rfl) hS94 ?_
         refine WD.done (by kernel_rfl) ?_
         refine QXn (hK59 _ _ ?_)
         refine WCa 87 (!(decide (e64.v.ends = e70.v.ends))) rfl (fun t95b => ?_) (fun t95b => ?_)
         ·
          have t95 : (decide (e64.v.ends = e70.v.ends)) = false := by first | (simpa only [Bool.not_eq_true', Bool.not_eq_false'] using t95b) | simpa using t95b
          refine WCt rfl ?_
          refine WCs (fun K96 hK97 => ?_)
          refine WCg (WLr 1 [(4, .bool false)] (fun _ => by kernel_rfl) (WLd rfl (QXn (hK97 _ _ ?_))))
          refine WC.ret ?_
          refine QXk ?_
          refine QXr ?_
          refine QXr ?_
          refine QXk ?_
          refine QXr ?_
          refine (hret _ _ _ rfl ?_).1
          exact ⟨congrArg (fun b_ => Ending.returned (Value.bool b_)) (decide_eq_false (fun e_ => eqv_miss he65 he71 (fun q_ => absurd (congrArg SvcV.ends q_) (by simpa using t95)) (cfg_ext.1 e_).2.2.1)).symm, hC93.fr⟩
         ·
          have t95 : (decide (e64.v.ends = e70.v.ends)) = true := by first | (simpa only [Bool.not_eq_true', Bool.not_eq_false'] using t95b) | simpa using t95b
          refine WCf rfl (WC.skip ?_)
          refine QXb ?_
          refine QXn (hK57 _ _ ?_)
          refine WCg (WLr 2 [(59, .int .i64 (IntKind.i64.wrap ((i : Int) + 1))), (58, .int .i64 (i : Int))] (fun _ => by kernel_rfl) ?_)
          refine WLt (show (.int .i64 (IntKind.i64.wrap ((i : Int) + 1)) : Value) = .int .i64 ((i : Int) + 1) from by rw [wrap_in_i64 ((i : Int) + 1) (by omega) (by omega)]) ?_
          refine WLr 1 [(5, .int .i64 ((i : Int) + 1))] (fun _ => by kernel_rfl) ?_
          refine WLd rfl ?_
          refine QXn ?_
          have hC98 := hC93.pick [0, 1] [] rfl rfl
          refine fun a_ ha_ => hK46 _ _ _ ?_ ⟨i + 1, rfl, rfl, hC98, by omega, eqv_snoc hpre he65 he71 (svc_ext.2 ⟨k3_eq.1 (by simpa using t80), by simpa using t95⟩)⟩ a_ (ha_.weaken (sub_of ⟨rfl, rfl, rfl, trivial⟩))
          omega
       ·
        have t55 : (xs1.length : Int) ≤ (i : Int) := by have q_ := of_decide_eq_false t55b; omega
        refine WCf rfl ?_
        refine WC.exit ?_
        refine QXe ?_
        refine QXe ?_
        refine QX.block_hit ?_
        refine QXn (hK42 _ _ ?_)
        refine WCs (fun K99 hK100 => ?_)
        refine WCs (fun K101 hK102 => ?_)
        refine WCg (WLr 1 [(6, .int .i64 0)] (fun _ => by kernel_rfl) (WLd rfl (QXn (hK102 _ _ ?_))))
        refine WC.block ?_
        have hsv_ := eqv_end hpre (by omega) (by omega)
        refine WC.loop (fun m_ E_ w_ => ∃ (j : Nat), m_ = ns1.length - j ∧ E_ = [(2, .pointer (some ⟨g3, 0, none⟩)), (3, .pointer (some ⟨g8, 0, none⟩)), (6, .int .i64 (j : Int))] ∧ Cx w [] w_ [(g3, .cells #[.int .i64 ce1, .int .i64 cn1, .slice AS1 xs1.length cS1, .slice AN1 ns1.length cN1, .slice AK1 ks1.length cK1, .slice AL1 ls1.length cL1] 31), (g8, .cells #[.int .i64 ce2, .int .i64 cn2, .slice AS2 xs2.length cS2, .slice AN2 ns2.length cN2, .slice AK2 ks2.length cK2, .slice AL2 ls2.length cL2] 31)] [] ∧ (j ≤ ns1.length ∧ ns1.take j = ns2.take j)) ⟨_, _, ⟨0, rfl, rfl, hC50, Nat.zero_le _, rfl⟩, sub_of ⟨rfl, rfl, rfl, trivial⟩⟩ (fun m106 E_ w107 K103 hK104 hI105 => ?_)
        obtain ⟨j, rfl, rfl, hC108, hj, hpr2⟩ := hI105
        refine WCs (fun K109 hK110 => ?_)
        refine WCs (fun K111 hK112 => ?_)
        refine WCg (WLr 2 [(89, .pointer (some ⟨g3, 3, none⟩)), (88, .int .i64 (j : Int))] (fun _ => by kernel_rfl) ?_)
        refine WL.load 27 (.pointer (some ⟨g3, 3, none⟩)) (.slice AN1 ns1.length cN1) 90 (by kernel_rfl) (run_ld (hC108.get 0 rfl) rfl) ?_
        refine WLr 2 [(92, .bool (decide ((j : Int) < (ns1.length : Int)))), (91, .int .i64 (ns1.length : Int))] (fun _ => by kernel_rfl) (WLd rfl (QXn (hK112 _ _ ?_)))
        refine WCa 92 (decide ((j : Int) < (ns1.length : Int))) rfl (fun t113b => ?_) (fun t113b => ?_)
        ·
         have t113 : (j : Int) < (ns1.length : Int) := by have q_ := of_decide_eq_true t113b; omega
         refine WCt rfl ?_
         refine WC.skip ?_
         refine QXn (hK110 _ _ ?_)
         refine WCs (fun K114 hK115 => ?_)
         refine WC.block ?_
         refine WCs (fun K116 hK117 => ?_)
         refine WC.drawC hC108 [] (by kernel_rfl) (fun w118 hF119 hC120 hS121 => ?_)
         refine WDp (NPt (NPb (NPt (NPt (NPb (NPt hN)))))) 0 95 (.pointer (some ⟨g3, 3, none⟩)) (by kernel_rfl) (fun _ => by kernel_rfl) hS121 ?_
         refine WDp (NPt (NPb (NPt (NPt (NPb (NPt hN)))))) 2 97 (.int .i64 (j : Int)) (by kernel_rfl) (fun _ => by kernel_rfl) hS121 ?_
         refine WDp (NPt (NPb (NPt (NPt (NPb (NPt hN)))))) 5 100 (.pointer (some ⟨g8, 3, none⟩)) (by kernel_rfl) (fun _ => by kernel_rfl) hS121 ?_
         refine WDp (NPt (NPb (NPt (NPt (NPb (NPt hN)))))) 7 102 (.int .i64 (j : Int)) (by kernel_rfl) (fun _ => by kernel_rfl) hS121 ?_
         refine WDl (NPt (NPb (NPt (NPt (NPb (NPt hN)))))) 1 27 (.pointer (some ⟨g3, 3, none⟩)) (.slice AN1 ns1.length cN1) 96 (by kernel_rfl) (by kernel_rfl) (fun _ hS_ => run_ld (Fr.has hS_ (hC120.get 0 rfl) (by simp)) rfl) hS121 ?_
         obtain ⟨e122, he123⟩ := get_some (xs := ns1) (i := j) (by omega)
         obtain ⟨b124, o126, hA125, hc127⟩ := hqN1.at_ _ _ he123
         refine WDi (NPt (NPb (NPt (NPt (NPb (NPt hN)))))) 3 AN1 ns1.length cN1 98 .i64 (j : Int) b124 o126 j 2 (by kernel_rfl) (by kernel_rfl) hA125 (by omega) (by omega) (o126 + j * 2) (by first | (simp; done) | omega) hS121 ?_
         refine WDl (NPt (NPb (NPt (NPt (NPb (NPt hN)))))) 4 54 (.pointer (some ⟨b124, o126 + j * 2, none⟩)) (.agg #[.int .u32 e122.dip, .int .u32 e122.vip]) 99 (by kernel_rfl) (by kernel_rfl) (fun _ hS_ => run_rdN (l := [.int .u32 e122.dip, .int .u32 e122.vip]) rfl rfl (fun j u hu => by have hq_ := Fr.cell hS_ (hC120.fr.cell (hc127 j u hu) (by simp)) (by simp); simpa [Nat.add_assoc] using hq_)) hS121 ?_
         refine WDl (NPt (NPb (NPt (NPt (NPb (NPt hN)))))) 6 27 (.pointer (some ⟨g8, 3, none⟩)) (.slice AN2 ns2.length cN2) 101 (by kernel_rfl) (by kernel_rfl) (fun _ hS_ => run_ld (Fr.has hS_ (hC120.get 1 rfl) (by simp)) rfl) hS121 ?_
         obtain ⟨e128, he129⟩ := get_some (xs := ns2) (i := j) (by omega)
         obtain ⟨b130, o132, hA131, hc133⟩ := hqN2.at_ _ _ he129
         refine WDi (NPt (NPb (NPt (NPt (NPb (NPt hN)))))) 8 AN2 ns2.length cN2 103 .i64 (j : Int) b130 o132 j 2 (by kernel_rfl) (by kernel_rfl) hA131 (by omega) (by omega) (o132 + j * 2) (by first | (simp; done) | omega) hS121 ?_
         refine WDl (NPt (NPb (NPt (NPt (NPb (NPt hN)))))) 9 54 (.pointer (some ⟨b130, o132 + j * 2, none⟩)) (.agg #[.int .u32 e128.dip, .int .u32 e128.vip]) 104 (by kernel_rfl) (by kernel_rfl) (fun _ hS_ => run_rdN (l := [.int .u32 e128.dip, .int .u32 e128.vip]) rfl rfl (fun j u hu => by have hq_ := Fr.cell hS_ (hC120.fr.cell (hc133 j u hu) (by simp)) (by simp); simpa [Nat.add_assoc] using hq_)) hS121 ?_
         have hr134 : ∀ w_, Sem.run Tryd.prog (do eqGuard .neq 54 (Operand.tmp 99) (Operand.tmp 104) (.agg #[.int .u32 e122.dip, .int .u32 e122.vip]) (.agg #[.int .u32 e128.dip, .int .u32 e128.vip]); binOp .neq 54 (.agg #[.int .u32 e122.dip, .int .u32 e122.vip]) (.agg #[.int .u32 e128.dip, .int .u32 e128.vip])) w_ = .ok (.bool (!(e122.dip == e128.dip && (e122.vip == e128.vip && true)))) w_ := fun w_ => (run_neq_S (by kernel_rfl))
         refine WD.semP (NPt (NPb (NPt (NPt (NPb (NPt hN)))))) 10 (do eqGuard .neq 54 (Operand.tmp 99) (Operand.tmp 104) (.agg #[.int .u32 e122.dip, .int .u32 e122.vip]) (.agg #[.int .u32 e128.dip, .int .u32 e128.vip]); binOp .neq 54 (.agg #[.int .u32 e122.dip, .int .u32 e122.vip]) (.agg #[.int .u32 e128.dip, .int .u32 e128.vip])) 105 (.bool (!(e122.dip == e128.dip && (e122.vip == e128.vip && true)))) (by kernel_rfl) (by kernel_rfl) (fun _ _ => hr134 _) hS121 ?_
         refine WD.recast (show (.bool (!(e122.dip == e128.dip && (e122.vip == e128.vip && true))) : Value) = .bool (!decide (e122 = e128)) from by rw [snat_beq]) ?_
         refine WD.done (by kernel_rfl) ?_
         refine QXn (hK117 _ _ ?_)
         refine WCa 105 (!decide (e122 = e128)) rfl (fun t135b => ?_) (fun t135b => ?_)
         ·
          have t135 : (decide (e122 = e128)) = false := by first | (simpa only [Bool.not_eq_true', Bool.not_eq_false'] using t135b) | simpa using t135b
          refine WCt rfl ?_
          refine WCs (fun K136 hK137 => ?_)
          refine WCg (WLr 1 [(4, .bool false)] (fun _ => by kernel_rfl) (WLd rfl (QXn (hK137 _ _ ?_))))
          refine WC.ret ?_
          refine QXk ?_
          refine QXr ?_
          refine QXr ?_
          refine QXk ?_
          refine QXr ?_
          refine (hret _ _ _ rfl ?_).1
          clear hN hret hret' hK137 hK117 hK115 hK112 hK110 hK102 hK100 hK54 hK52 hK44 hK42 hK16 hK14 hK2
          exact ⟨congrArg (fun b_ => Ending.returned (Value.bool b_)) (decide_eq_false (fun e_ => of_decide_eq_false (eqs_miss he123 he129 (by assumption)) (cfg_ext.1 e_).2.2.2.1)).symm, hC120.fr⟩
         ·
          have t135 : (decide (e122 = e128)) = true := by first | (simpa only [Bool.not_eq_true', Bool.not_eq_false'] using t135b) | simpa using t135b
          refine WCf rfl (WC.skip ?_)
          refine QXb ?_
          refine QXn (hK115 _ _ ?_)
          refine WCg (WLr 2 [(94, .int .i64 (IntKind.i64.wrap ((j : Int) + 1))), (93, .int .i64 (j : Int))] (fun _ => by kernel_rfl) ?_)
          refine WLt (show (.int .i64 (IntKind.i64.wrap ((j : Int) + 1)) : Value) = .int .i64 ((j : Int) + 1) from by rw [wrap_in_i64 ((j : Int) + 1) (by omega) (by omega)]) ?_
          refine WLr 1 [(6, .int .i64 ((j : Int) + 1))] (fun _ => by kernel_rfl) ?_
          refine WLd rfl ?_
          refine QXn ?_
          have hC138 := hC120.pick [0, 1] [] rfl rfl
          refine fun a_ ha_ => hK104 _ _ _ ?_ ⟨j + 1, rfl, rfl, hC138, by omega, eqs_snoc hpr2 he123 he129 t135b⟩ a_ (ha_.weaken (sub_of ⟨rfl, rfl, rfl, trivial⟩))
          omega
        ·
         have t113 : (ns1.length : Int) ≤ (j : Int) := by have q_ := of_decide_eq_false t113b; omega
         refine WCf rfl ?_
         refine WC.exit ?_
         refine QXe ?_
         refine QXe ?_
         refine QX.block_hit ?_
         refine QXn (hK100 _ _ ?_)
         refine WCs (fun K139 hK140 => ?_)
         refine WCg (WLr 1 [(4, .bool true)] (fun _ => by kernel_rfl) (WLd rfl (QXn (hK140 _ _ ?_))))
         refine WC.ret ?_
         refine (hret _ _ _ rfl ?_).1
         clear hN hret hret' hK140 hK112 hK110 hK102 hK100 hK54 hK52 hK44 hK42 hK16 hK14 hK2
         have hnn_ : ns1 = ns2 := by rwa [List.take_of_length_le (by omega), List.take_of_length_le (by omega)] at hpr2
         exact ⟨congrArg (fun b_ => Ending.returned (Value.bool b_)) (decide_eq_true (cfg_ext.2 ⟨hq1_, hq2_, hsv_, hnn_, hq5_, hq6_⟩)).symm, hC108.fr⟩

end Go.Proofs.YtfligklljkcbfaaDoor
