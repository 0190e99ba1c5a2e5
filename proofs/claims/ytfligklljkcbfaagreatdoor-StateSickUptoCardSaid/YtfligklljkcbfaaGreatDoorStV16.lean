/- Contracts of functions of the program, each proved by a walk through its code; conditions stand in the statements. -/
import Derived.Test.YtfligklljkcbfaaGreatDoorStR16
namespace Go.Proofs.YtfligklljkcbfaaGreatDoor
set_option linter.unusedSimpArgs false
set_option linter.unusedVariables false
set_option linter.unusedSectionVars false
open Go Go.RowKit Go.Tw
set_option linter.unusedVariables false
set_option maxRecDepth 20000
theorem cfg_ext {A B : CfgV} : A = B ↔ A.epoch = B.epoch ∧ A.now = B.now ∧ A.svcs = B.svcs ∧ A.snats = B.snats ∧ A.sick = B.sick ∧ A.leases = B.leases := by
  obtain ⟨a, b, c, d, e, f⟩ := A; obtain ⟨a', b', c', d', e', f'⟩ := B; simp
theorem svc_ext {a b : SvcV} : a = b ↔ (a.vip = b.vip ∧ a.proto = b.proto ∧ a.port = b.port) ∧ a.ends = b.ends := by
  obtain ⟨x, y, z, e⟩ := a; obtain ⟨x', y', z', e'⟩ := b; simp [and_assoc]
theorem like_kS {a b : Svc} (h1 : (cmp3 (kS a) (kS b) == 0) = true) (h2 : a.v.ends = b.v.ends) : a.v = b.v := by
  have e := cmp3_eq.1 (by simpa using h1)
  exact svc_ext.2 ⟨k3_eq.1 e, h2⟩
theorem like_no1 {a b : Svc} (h1 : (cmp3 (kS a) (kS b) == 0) = false) : ¬ a.v = b.v := fun e => by
  have : cmp3 (kS a) (kS b) = 0 := cmp3_eq.2 (by unfold kS; rw [e])
  rw [this] at h1; cases h1
section
variable {xs ys : List Svc} {i : Nat} {a b : Svc}
theorem eqv_snoc (h : (xs.take i).map (·.v) = (ys.take i).map (·.v)) (ha : xs[i]? = some a) (hb : ys[i]? = some b) (he : a.v = b.v) : (xs.take (i + 1)).map (·.v) = (ys.take (i + 1)).map (·.v) := by
  obtain ⟨hi, h1⟩ := List.getElem?_eq_some_iff.1 ha
  obtain ⟨hj, h2⟩ := List.getElem?_eq_some_iff.1 hb
  rw [List.take_succ_eq_append_getElem hi, List.take_succ_eq_append_getElem hj, List.map_append, List.map_append, h, h1, h2]; simp [he]
theorem eqv_miss (ha : xs[i]? = some a) (hb : ys[i]? = some b) (he : ¬ a.v = b.v) : ¬ xs.map (·.v) = ys.map (·.v) := fun e => by
  have h1 : (xs.map (·.v))[i]? = some a.v := by rw [List.getElem?_map, ha]; rfl
  rw [e, List.getElem?_map, hb] at h1
  exact he (Option.some.inj h1).symm
theorem eqv_len (h : xs.length ≠ ys.length) : ¬ xs.map (·.v) = ys.map (·.v) := fun e => h (by have := congrArg List.length e; simpa using this)
theorem eqv_end (h : (xs.take i).map (·.v) = (ys.take i).map (·.v)) (h1 : xs.length ≤ i) (h2 : ys.length ≤ i) : xs.map (·.v) = ys.map (·.v) := by rwa [List.take_of_length_le h1, List.take_of_length_le h2] at h
end
theorem dec_of {p q : Prop} [Decidable p] [Decidable q] (h : p ↔ q) : decide p = decide q := by
  by_cases hp : p
  · rw [decide_eq_true hp, decide_eq_true (h.1 hp)]
  · rw [decide_eq_false hp, decide_eq_false (fun e => hp (h.2 e))]
theorem eqN (A B : Option Addr) (c d : Nat) (xs ys : List SnatV) (w : World) (hA : Rd w 2 cellsN A xs) (hB : Rd w 2 cellsN B ys) (hlx : xs.length ≤ 1099511627776) : Calls Tryz.prog 40 #[.slice A xs.length c, .slice B ys.length d] w fun e w' => e = .returned (.bool (decide (xs = ys))) ∧ Fr w w' [] := by
 refine enterD (n := 26) Tryz.func40 rfl rfl (Nat.le_of_ble_eq_true rfl) ?_
 intro Q0 hN hret hret'
 have hC := Cx.start w
 refine WCs (fun K1 hK2 => ?_)
 refine WCg (WLq 1 [(4, .bool false)] (WLd rfl (QXn (hK2 _ _ ?_))))
 refine WCs (fun K3 hK4 => ?_)
 refine WCs (fun K5 hK6 => ?_)
 refine WCg (WLq 5 [(10, .bool ((xs.length : Int) != (ys.length : Int))), (9, .int .i64 (ys.length : Int)), (8, .slice B ys.length d), (7, .int .i64 (xs.length : Int)), (6, .slice A xs.length c)] (WLd rfl (QXn (hK6 _ _ ?_))))
 refine WCa 10 ((xs.length : Int) != (ys.length : Int)) rfl (fun t7b => ?_) (fun t7b => ?_)
 ·
  have t7 : (xs.length : Int) ≠ (ys.length : Int) := by simpa using t7b
  refine WCt rfl ?_
  refine WCs (fun K8 hK9 => ?_)
  refine WCg (WLq 1 [(4, .bool false)] (WLd rfl (QXn (hK9 _ _ ?_))))
  refine WC.ret ?_
  refine QXr ?_
  refine (hret _ _ _ rfl ?_).1
  exact ⟨congrArg (fun b_ => Ending.returned (Value.bool b_)) (decide_eq_false (fun e_ => by subst e_; omega)).symm, hC.fr⟩
 ·
  have t7 : (xs.length : Int) = (ys.length : Int) := by simpa using t7b
  refine WCf rfl (WC.skip (QXn (hK4 _ _ ?_)))
  refine WCs (fun aF af => ?_)
  refine WCs (fun aG ag => ?_)
  refine WCg (WLq 3 [(13, .int .i64 0), (12, .int .i64 (xs.length : Int)), (11, .slice A xs.length c)] (WLd rfl (QXn (ag _ _ ?_))))
  refine WC.block ?_
  refine WC.loop (fun m_ E_ w_ => ∃ (i : Nat), m_ = xs.length - i ∧ E_ = [(0, .slice A xs.length c), (1, .slice B ys.length d), (11, .slice A xs.length c), (12, .int .i64 (xs.length : Int)), (13, .int .i64 (i : Int))] ∧ Cx w [] w_ [] [] ∧ (i ≤ xs.length ∧ xs.take i = ys.take i)) ⟨_, _, ⟨0, rfl, rfl, hC, Nat.zero_le _, rfl⟩, sub_of ⟨rfl, rfl, rfl, rfl, rfl, trivial⟩⟩ (fun m17 E_ aH aI au av => ?_)
  obtain ⟨i, rfl, rfl, am, hi, hpre⟩ := av
  refine WCs (fun aJ ah => ?_)
  refine WCg (WLq 1 [(14, .bool (decide ((i : Int) < (xs.length : Int))))] (WLd rfl (QXn (ah _ _ ?_))))
  refine WCs (fun aK ai => ?_)
  refine WCa 14 (decide ((i : Int) < (xs.length : Int))) rfl (fun aj => ?_) (fun aj => ?_)
  ·
   have aC : (i : Int) < (xs.length : Int) := by have q_ := of_decide_eq_true aj; omega
   refine WCt rfl ?_
   refine WC.skip ?_
   refine QXn (ai _ _ ?_)
   refine WCs (fun aL an => ?_)
   refine WC.block ?_
   refine WCs (fun aM ao => ?_)
   refine WCg (WLq 2 [(5, .int .i64 (i : Int)), (15, .int .i64 (i : Int))] (WLd rfl (QXn (ao _ _ ?_))))
   refine WCs (fun aN ap => ?_)
   refine WC.drawC am [] (by kernel_rfl) (fun aO aD ae ac => ?_)
   refine WDq (NPt (NPb (NPt (NPt (NPb (NPt hN)))))) 0 16 (.slice A xs.length c) ac ?_
   refine WDq (NPt (NPb (NPt (NPt (NPb (NPt hN)))))) 1 17 (.int .i64 (i : Int)) ac ?_
   obtain ⟨aa, ak⟩ := get_some (xs := xs) (i := i) (by omega)
   obtain ⟨b37, o39, aw, ax⟩ := hA.at_ _ _ ak
   refine WDi (NPt (NPb (NPt (NPt (NPb (NPt hN)))))) 2 A xs.length c 18 .i64 (i : Int) b37 o39 i 2 (by kernel_rfl) (by kernel_rfl) aw (by omega) (by omega) (o39 + i * 2) (by first | (simp; done) | omega) ac ?_
   refine WDq (NPt (NPb (NPt (NPt (NPb (NPt hN)))))) 4 20 (.slice B ys.length d) ac ?_
   refine WDq (NPt (NPb (NPt (NPt (NPb (NPt hN)))))) 5 21 (.int .i64 (i : Int)) ac ?_
   obtain ⟨ab, al⟩ := get_some (xs := ys) (i := i) (by omega)
   obtain ⟨b43, o45, ay, az⟩ := hB.at_ _ _ al
   refine WDi (NPt (NPb (NPt (NPt (NPb (NPt hN)))))) 6 B ys.length d 22 .i64 (i : Int) b43 o45 i 2 (by kernel_rfl) (by kernel_rfl) ay (by omega) (by omega) (o45 + i * 2) (by first | (simp; done) | omega) ac ?_
   refine WDm (NPt (NPb (NPt (NPt (NPb (NPt hN)))))) 3 79 (.pointer (some ⟨b37, o39 + i * 2, none⟩)) (.agg #[.int .u32 aa.dip, .int .u32 aa.vip]) 19 (fun _ hS_ => run_rdN (l := [.int .u32 aa.dip, .int .u32 aa.vip]) rfl rfl (fun j u hu => by have hq_ := Fr.cell hS_ (ae.fr.cell (ax j u hu) (by simp)) (by simp); simpa [Nat.add_assoc] using hq_)) ac ?_
   refine WDm (NPt (NPb (NPt (NPt (NPb (NPt hN)))))) 7 79 (.pointer (some ⟨b43, o45 + i * 2, none⟩)) (.agg #[.int .u32 ab.dip, .int .u32 ab.vip]) 23 (fun _ hS_ => run_rdN (l := [.int .u32 ab.dip, .int .u32 ab.vip]) rfl rfl (fun j u hu => by have hq_ := Fr.cell hS_ (ae.fr.cell (az j u hu) (by simp)) (by simp); simpa [Nat.add_assoc] using hq_)) ac ?_
   have aA : ∀ w_, Sem.run Tryz.prog (do eqGuard .neq 79 (Operand.tmp 19) (Operand.tmp 23) (.agg #[.int .u32 aa.dip, .int .u32 aa.vip]) (.agg #[.int .u32 ab.dip, .int .u32 ab.vip]); binOp .neq 79 (.agg #[.int .u32 aa.dip, .int .u32 aa.vip]) (.agg #[.int .u32 ab.dip, .int .u32 ab.vip])) w_ = .ok (.bool (!(aa.dip == ab.dip && (aa.vip == ab.vip && true)))) w_ := fun w_ => (run_neq_S (by kernel_rfl))
   refine WD.semP (NPt (NPb (NPt (NPt (NPb (NPt hN)))))) 8 (do eqGuard .neq 79 (Operand.tmp 19) (Operand.tmp 23) (.agg #[.int .u32 aa.dip, .int .u32 aa.vip]) (.agg #[.int .u32 ab.dip, .int .u32 ab.vip]); binOp .neq 79 (.agg #[.int .u32 aa.dip, .int .u32 aa.vip]) (.agg #[.int .u32 ab.dip, .int .u32 ab.vip])) 24 (.bool (!(aa.dip == ab.dip && (aa.vip == ab.vip && true)))) (by kernel_rfl) (by kernel_rfl) (fun _ _ => aA _) ac ?_
   refine WD.recast (show (.bool (!(aa.dip == ab.dip && (aa.vip == ab.vip && true))) : Value) = .bool (!decide (aa = ab)) from by rw [snat_beq]) ?_
   refine WD.done (by kernel_rfl) ?_
   refine QXn (ap _ _ ?_)
   refine WCa 24 (!decide (aa = ab)) rfl (fun ad => ?_) (fun ad => ?_)
   ·
    have aE : (decide (aa = ab)) = false := by first | (simpa only [Bool.not_eq_true', Bool.not_eq_false'] using ad) | simpa using ad
    refine WCt rfl ?_
    refine WCs (fun aP aq => ?_)
    refine WCg (WLq 1 [(4, .bool false)] (WLd rfl (QXn (aq _ _ ?_))))
    refine WC.ret ?_
    refine QXk ?_
    refine QXr ?_
    refine QXr ?_
    refine QXk ?_
    refine QXr ?_
    refine (hret _ _ _ rfl ?_).1
    clear hN hret hret' aq ap ao an ai ah ag af hK6 hK4 hK2
    exact ⟨congrArg (fun b_ => Ending.returned (Value.bool b_)) (eqs_miss ak al (by assumption)).symm, ae.fr⟩
   ·
    have aE : (decide (aa = ab)) = true := by first | (simpa only [Bool.not_eq_true', Bool.not_eq_false'] using ad) | simpa using ad
    refine WCf rfl (WC.skip ?_)
    refine QXb ?_
    refine QXn (an _ _ ?_)
    refine WCg (WLq 1 [(25, .int .i64 (IntKind.i64.wrap ((i : Int) + 1)))] ?_)
    refine WLt (show (.int .i64 (IntKind.i64.wrap ((i : Int) + 1)) : Value) = .int .i64 ((i : Int) + 1) from by rw [wrap_in_i64 ((i : Int) + 1) (by omega) (by omega)]) ?_
    refine WLq 1 [(13, .int .i64 ((i : Int) + 1))] ?_
    refine WLd rfl ?_
    refine QXn ?_
    have aB := ae.pick [] [] rfl rfl
    refine fun a_ ha_ => au _ _ _ ?_ ⟨i + 1, rfl, rfl, aB, by omega, eqs_snoc hpre ak al ad⟩ a_ (ha_.weaken (sub_of ⟨rfl, rfl, rfl, rfl, rfl, trivial⟩))
    omega
  ·
   have aC : (xs.length : Int) ≤ (i : Int) := by have q_ := of_decide_eq_false aj; omega
   refine WCf rfl ?_
   refine WC.exit ?_
   refine QXe ?_
   refine QXe ?_
   refine QX.block_hit ?_
   refine QXn (af _ _ ?_)
   refine WCs (fun aQ ar => ?_)
   refine WCg (WLq 1 [(4, .bool true)] (WLd rfl (QXn (ar _ _ ?_))))
   refine WC.ret ?_
   refine (hret _ _ _ rfl ?_).1
   clear hN hret hret' ar ai ah ag af hK6 hK4 hK2
   have hie_ : i = xs.length := by omega
   rw [List.take_of_length_le (by omega), List.take_of_length_le (by omega)] at hpre
   exact ⟨congrArg (fun b_ => Ending.returned (Value.bool b_)) (decide_eq_true hpre).symm, am.fr⟩

theorem eqN_n (A B : Option Addr) (n c n2 d : Nat) (xs ys : List SnatV) (w : World) (hA : Rd w 2 cellsN A xs) (hB : Rd w 2 cellsN B ys) (h1 : xs.length = n) (h2 : ys.length = n2) (hlx : n ≤ 1099511627776) : Calls Tryz.prog 40 #[.slice A n c, .slice B n2 d] w fun e w' => e = .returned (.bool (decide (xs = ys))) ∧ Fr w w' [] := by subst h1 h2; exact eqN A B c d xs ys w hA hB hlx
theorem eqA (A B : Option Addr) (c d : Nat) (xs ys : List Int) (w : World) (hA : Rd w 1 (Go.Tw.encI .u32) A xs) (hB : Rd w 1 (Go.Tw.encI .u32) B ys) (hlx : xs.length ≤ 1099511627776) : Calls Tryz.prog 41 #[.slice A xs.length c, .slice B ys.length d] w fun e w' => e = .returned (.bool (decide (xs = ys))) ∧ Fr w w' [] := by
 refine enterD (n := 26) Tryz.func41 rfl rfl (Nat.le_of_ble_eq_true rfl) ?_
 intro Q0 hN hret hret'
 have hC := Cx.start w
 refine WCs (fun K1 hK2 => ?_)
 refine WCg (WLq 1 [(4, .bool false)] (WLd rfl (QXn (hK2 _ _ ?_))))
 refine WCs (fun K3 hK4 => ?_)
 refine WCs (fun K5 hK6 => ?_)
 refine WCg (WLq 5 [(10, .bool ((xs.length : Int) != (ys.length : Int))), (9, .int .i64 (ys.length : Int)), (8, .slice B ys.length d), (7, .int .i64 (xs.length : Int)), (6, .slice A xs.length c)] (WLd rfl (QXn (hK6 _ _ ?_))))
 refine WCa 10 ((xs.length : Int) != (ys.length : Int)) rfl (fun t7b => ?_) (fun t7b => ?_)
 ·
  have t7 : (xs.length : Int) ≠ (ys.length : Int) := by simpa using t7b
  refine WCt rfl ?_
  refine WCs (fun K8 hK9 => ?_)
  refine WCg (WLq 1 [(4, .bool false)] (WLd rfl (QXn (hK9 _ _ ?_))))
  refine WC.ret ?_
  refine QXr ?_
  refine (hret _ _ _ rfl ?_).1
  exact ⟨congrArg (fun b_ => Ending.returned (Value.bool b_)) (decide_eq_false (fun e_ => by subst e_; omega)).symm, hC.fr⟩
 ·
  have t7 : (xs.length : Int) = (ys.length : Int) := by simpa using t7b
  refine WCf rfl (WC.skip (QXn (hK4 _ _ ?_)))
  refine WCs (fun aE ad => ?_)
  refine WCs (fun aF ae => ?_)
  refine WCg (WLq 3 [(13, .int .i64 0), (12, .int .i64 (xs.length : Int)), (11, .slice A xs.length c)] (WLd rfl (QXn (ae _ _ ?_))))
  refine WC.block ?_
  refine WC.loop (fun m_ E_ w_ => ∃ (i : Nat), m_ = xs.length - i ∧ E_ = [(0, .slice A xs.length c), (1, .slice B ys.length d), (11, .slice A xs.length c), (12, .int .i64 (xs.length : Int)), (13, .int .i64 (i : Int))] ∧ Cx w [] w_ [] [] ∧ (i ≤ xs.length ∧ xs.take i = ys.take i)) ⟨_, _, ⟨0, rfl, rfl, hC, Nat.zero_le _, rfl⟩, sub_of ⟨rfl, rfl, rfl, rfl, rfl, trivial⟩⟩ (fun m17 E_ aG aH au av => ?_)
  obtain ⟨i, rfl, rfl, am, hi, hpre⟩ := av
  refine WCs (fun aI af => ?_)
  refine WCg (WLq 1 [(14, .bool (decide ((i : Int) < (xs.length : Int))))] (WLd rfl (QXn (af _ _ ?_))))
  refine WCs (fun aJ ag => ?_)
  refine WCa 14 (decide ((i : Int) < (xs.length : Int))) rfl (fun ah => ?_) (fun ah => ?_)
  ·
   have aB : (i : Int) < (xs.length : Int) := by have q_ := of_decide_eq_true ah; omega
   refine WCt rfl ?_
   refine WC.skip ?_
   refine QXn (ag _ _ ?_)
   refine WCs (fun aK an => ?_)
   refine WC.block ?_
   refine WCs (fun aL ao => ?_)
   refine WCg (WLq 2 [(5, .int .i64 (i : Int)), (15, .int .i64 (i : Int))] (WLd rfl (QXn (ao _ _ ?_))))
   refine WCs (fun aM ap => ?_)
   refine WC.drawC am [] (by kernel_rfl) (fun aN aC ac aa => ?_)
   refine WDq (NPt (NPb (NPt (NPt (NPb (NPt hN)))))) 0 16 (.slice A xs.length c) aa ?_
   refine WDq (NPt (NPb (NPt (NPt (NPb (NPt hN)))))) 1 17 (.int .i64 (i : Int)) aa ?_
   obtain ⟨ai, aj⟩ := get_some (xs := xs) (i := i) (by omega)
   obtain ⟨b37, o39, aw, ax⟩ := hA.at_ _ _ aj
   refine WDi (NPt (NPb (NPt (NPt (NPb (NPt hN)))))) 2 A xs.length c 18 .i64 (i : Int) b37 o39 i 1 (by kernel_rfl) (by kernel_rfl) aw (by omega) (by omega) (o39 + i) (by first | (simp; done) | omega) aa ?_
   refine WDq (NPt (NPb (NPt (NPt (NPb (NPt hN)))))) 4 20 (.slice B ys.length d) aa ?_
   refine WDq (NPt (NPb (NPt (NPt (NPb (NPt hN)))))) 5 21 (.int .i64 (i : Int)) aa ?_
   obtain ⟨ak, al⟩ := get_some (xs := ys) (i := i) (by omega)
   obtain ⟨b43, o45, ay, az⟩ := hB.at_ _ _ al
   refine WDi (NPt (NPb (NPt (NPt (NPb (NPt hN)))))) 6 B ys.length d 22 .i64 (i : Int) b43 o45 i 1 (by kernel_rfl) (by kernel_rfl) ay (by omega) (by omega) (o45 + i) (by first | (simp; done) | omega) aa ?_
   refine WDm (NPt (NPb (NPt (NPt (NPb (NPt hN)))))) 3 40 (.pointer (some ⟨b37, o39 + i, none⟩)) (.int .u32 ai) 19 (fun _ hS_ => run_load1 rfl (by simpa [Nat.add_assoc] using Fr.cell hS_ (ac.fr.cell (ax 0 _ rfl) (by simp)) (by simp))) aa ?_
   refine WDm (NPt (NPb (NPt (NPt (NPb (NPt hN)))))) 7 40 (.pointer (some ⟨b43, o45 + i, none⟩)) (.int .u32 ak) 23 (fun _ hS_ => run_load1 rfl (by simpa [Nat.add_assoc] using Fr.cell hS_ (ac.fr.cell (az 0 _ rfl) (by simp)) (by simp))) aa ?_
   refine WDq (NPt (NPb (NPt (NPt (NPb (NPt hN)))))) 8 24 (.bool (ai != ak)) aa ?_
   refine WD.recast (show (.bool (ai != ak) : Value) = .bool (!decide (ai = ak)) from by rw [int_bne]) ?_
   refine WD.done (by kernel_rfl) ?_
   refine QXn (ap _ _ ?_)
   refine WCa 24 (!decide (ai = ak)) rfl (fun ab => ?_) (fun ab => ?_)
   ·
    have aD : (decide (ai = ak)) = false := by first | (simpa only [Bool.not_eq_true', Bool.not_eq_false'] using ab) | simpa using ab
    refine WCt rfl ?_
    refine WCs (fun aO aq => ?_)
    refine WCg (WLq 1 [(4, .bool false)] (WLd rfl (QXn (aq _ _ ?_))))
    refine WC.ret ?_
    refine QXk ?_
    refine QXr ?_
    refine QXr ?_
    refine QXk ?_
    refine QXr ?_
    refine (hret _ _ _ rfl ?_).1
    clear hN hret hret' aq ap ao an ag af ae ad hK6 hK4 hK2
    exact ⟨congrArg (fun b_ => Ending.returned (Value.bool b_)) (eqs_miss aj al (by assumption)).symm, ac.fr⟩
   ·
    have aD : (decide (ai = ak)) = true := by first | (simpa only [Bool.not_eq_true', Bool.not_eq_false'] using ab) | simpa using ab
    refine WCf rfl (WC.skip ?_)
    refine QXb ?_
    refine QXn (an _ _ ?_)
    refine WCg (WLq 1 [(25, .int .i64 (IntKind.i64.wrap ((i : Int) + 1)))] ?_)
    refine WLt (show (.int .i64 (IntKind.i64.wrap ((i : Int) + 1)) : Value) = .int .i64 ((i : Int) + 1) from by rw [wrap_in_i64 ((i : Int) + 1) (by omega) (by omega)]) ?_
    refine WLq 1 [(13, .int .i64 ((i : Int) + 1))] ?_
    refine WLd rfl ?_
    refine QXn ?_
    have aA := ac.pick [] [] rfl rfl
    refine fun a_ ha_ => au _ _ _ ?_ ⟨i + 1, rfl, rfl, aA, by omega, eqs_snoc hpre aj al ab⟩ a_ (ha_.weaken (sub_of ⟨rfl, rfl, rfl, rfl, rfl, trivial⟩))
    omega
  ·
   have aB : (xs.length : Int) ≤ (i : Int) := by have q_ := of_decide_eq_false ah; omega
   refine WCf rfl ?_
   refine WC.exit ?_
   refine QXe ?_
   refine QXe ?_
   refine QX.block_hit ?_
   refine QXn (ad _ _ ?_)
   refine WCs (fun aP ar => ?_)
   refine WCg (WLq 1 [(4, .bool true)] (WLd rfl (QXn (ar _ _ ?_))))
   refine WC.ret ?_
   refine (hret _ _ _ rfl ?_).1
   clear hN hret hret' ar ag af ae ad hK6 hK4 hK2
   have hie_ : i = xs.length := by omega
   rw [List.take_of_length_le (by omega), List.take_of_length_le (by omega)] at hpre
   exact ⟨congrArg (fun b_ => Ending.returned (Value.bool b_)) (decide_eq_true hpre).symm, am.fr⟩

theorem eqA_n (A B : Option Addr) (n c n2 d : Nat) (xs ys : List Int) (w : World) (hA : Rd w 1 (Go.Tw.encI .u32) A xs) (hB : Rd w 1 (Go.Tw.encI .u32) B ys) (h1 : xs.length = n) (h2 : ys.length = n2) (hlx : n ≤ 1099511627776) : Calls Tryz.prog 41 #[.slice A n c, .slice B n2 d] w fun e w' => e = .returned (.bool (decide (xs = ys))) ∧ Fr w w' [] := by subst h1 h2; exact eqA A B c d xs ys w hA hB hlx
theorem eqL (A B : Option Addr) (c d : Nat) (xs ys : List Lease) (w : World) (hA : Rd w 4 encL A xs) (hB : Rd w 4 encL B ys) (hlx : xs.length ≤ 1099511627776) : Calls Tryz.prog 42 #[.slice A xs.length c, .slice B ys.length d] w fun e w' => e = .returned (.bool (decide (xs = ys))) ∧ Fr w w' [] := by
 refine enterD (n := 26) Tryz.func42 rfl rfl (Nat.le_of_ble_eq_true rfl) ?_
 intro Q0 hN hret hret'
 have hC := Cx.start w
 refine WCs (fun K1 hK2 => ?_)
 refine WCg (WLq 1 [(4, .bool false)] (WLd rfl (QXn (hK2 _ _ ?_))))
 refine WCs (fun K3 hK4 => ?_)
 refine WCs (fun K5 hK6 => ?_)
 refine WCg (WLq 5 [(10, .bool ((xs.length : Int) != (ys.length : Int))), (9, .int .i64 (ys.length : Int)), (8, .slice B ys.length d), (7, .int .i64 (xs.length : Int)), (6, .slice A xs.length c)] (WLd rfl (QXn (hK6 _ _ ?_))))
 refine WCa 10 ((xs.length : Int) != (ys.length : Int)) rfl (fun t7b => ?_) (fun t7b => ?_)
 ·
  have t7 : (xs.length : Int) ≠ (ys.length : Int) := by simpa using t7b
  refine WCt rfl ?_
  refine WCs (fun K8 hK9 => ?_)
  refine WCg (WLq 1 [(4, .bool false)] (WLd rfl (QXn (hK9 _ _ ?_))))
  refine WC.ret ?_
  refine QXr ?_
  refine (hret _ _ _ rfl ?_).1
  exact ⟨congrArg (fun b_ => Ending.returned (Value.bool b_)) (decide_eq_false (fun e_ => by subst e_; omega)).symm, hC.fr⟩
 ·
  have t7 : (xs.length : Int) = (ys.length : Int) := by simpa using t7b
  refine WCf rfl (WC.skip (QXn (hK4 _ _ ?_)))
  refine WCs (fun aF af => ?_)
  refine WCs (fun aG ag => ?_)
  refine WCg (WLq 3 [(13, .int .i64 0), (12, .int .i64 (xs.length : Int)), (11, .slice A xs.length c)] (WLd rfl (QXn (ag _ _ ?_))))
  refine WC.block ?_
  refine WC.loop (fun m_ E_ w_ => ∃ (i : Nat), m_ = xs.length - i ∧ E_ = [(0, .slice A xs.length c), (1, .slice B ys.length d), (11, .slice A xs.length c), (12, .int .i64 (xs.length : Int)), (13, .int .i64 (i : Int))] ∧ Cx w [] w_ [] [] ∧ (i ≤ xs.length ∧ xs.take i = ys.take i)) ⟨_, _, ⟨0, rfl, rfl, hC, Nat.zero_le _, rfl⟩, sub_of ⟨rfl, rfl, rfl, rfl, rfl, trivial⟩⟩ (fun m17 E_ aH aI au av => ?_)
  obtain ⟨i, rfl, rfl, am, hi, hpre⟩ := av
  refine WCs (fun aJ ah => ?_)
  refine WCg (WLq 1 [(14, .bool (decide ((i : Int) < (xs.length : Int))))] (WLd rfl (QXn (ah _ _ ?_))))
  refine WCs (fun aK ai => ?_)
  refine WCa 14 (decide ((i : Int) < (xs.length : Int))) rfl (fun aj => ?_) (fun aj => ?_)
  ·
   have aC : (i : Int) < (xs.length : Int) := by have q_ := of_decide_eq_true aj; omega
   refine WCt rfl ?_
   refine WC.skip ?_
   refine QXn (ai _ _ ?_)
   refine WCs (fun aL an => ?_)
   refine WC.block ?_
   refine WCs (fun aM ao => ?_)
   refine WCg (WLq 2 [(5, .int .i64 (i : Int)), (15, .int .i64 (i : Int))] (WLd rfl (QXn (ao _ _ ?_))))
   refine WCs (fun aN ap => ?_)
   refine WC.drawC am [] (by kernel_rfl) (fun aO aD ae ac => ?_)
   refine WDq (NPt (NPb (NPt (NPt (NPb (NPt hN)))))) 0 16 (.slice A xs.length c) ac ?_
   refine WDq (NPt (NPb (NPt (NPt (NPb (NPt hN)))))) 1 17 (.int .i64 (i : Int)) ac ?_
   obtain ⟨aa, ak⟩ := get_some (xs := xs) (i := i) (by omega)
   obtain ⟨b37, o39, aw, ax⟩ := hA.at_ _ _ ak
   refine WDi (NPt (NPb (NPt (NPt (NPb (NPt hN)))))) 2 A xs.length c 18 .i64 (i : Int) b37 o39 i 4 (by kernel_rfl) (by kernel_rfl) aw (by omega) (by omega) (o39 + i * 4) (by first | (simp; done) | omega) ac ?_
   refine WDq (NPt (NPb (NPt (NPt (NPb (NPt hN)))))) 4 20 (.slice B ys.length d) ac ?_
   refine WDq (NPt (NPb (NPt (NPt (NPb (NPt hN)))))) 5 21 (.int .i64 (i : Int)) ac ?_
   obtain ⟨ab, al⟩ := get_some (xs := ys) (i := i) (by omega)
   obtain ⟨b43, o45, ay, az⟩ := hB.at_ _ _ al
   refine WDi (NPt (NPb (NPt (NPt (NPb (NPt hN)))))) 6 B ys.length d 22 .i64 (i : Int) b43 o45 i 4 (by kernel_rfl) (by kernel_rfl) ay (by omega) (by omega) (o45 + i * 4) (by first | (simp; done) | omega) ac ?_
   refine WDm (NPt (NPb (NPt (NPt (NPb (NPt hN)))))) 3 50 (.pointer (some ⟨b37, o39 + i * 4, none⟩)) (.agg #[.int .u32 aa.vip, .int .i64 aa.first, .int .u32 aa.dip, .int .i64 aa.exp]) 19 (fun _ hS_ => run_rdN (l := [.int .u32 aa.vip, .int .i64 aa.first, .int .u32 aa.dip, .int .i64 aa.exp]) rfl rfl (fun j u hu => by have hq_ := Fr.cell hS_ (ae.fr.cell (ax j u hu) (by simp)) (by simp); simpa [Nat.add_assoc] using hq_)) ac ?_
   refine WDm (NPt (NPb (NPt (NPt (NPb (NPt hN)))))) 7 50 (.pointer (some ⟨b43, o45 + i * 4, none⟩)) (.agg #[.int .u32 ab.vip, .int .i64 ab.first, .int .u32 ab.dip, .int .i64 ab.exp]) 23 (fun _ hS_ => run_rdN (l := [.int .u32 ab.vip, .int .i64 ab.first, .int .u32 ab.dip, .int .i64 ab.exp]) rfl rfl (fun j u hu => by have hq_ := Fr.cell hS_ (ae.fr.cell (az j u hu) (by simp)) (by simp); simpa [Nat.add_assoc] using hq_)) ac ?_
   have aA : ∀ w_, Sem.run Tryz.prog (do eqGuard .neq 50 (Operand.tmp 19) (Operand.tmp 23) (.agg #[.int .u32 aa.vip, .int .i64 aa.first, .int .u32 aa.dip, .int .i64 aa.exp]) (.agg #[.int .u32 ab.vip, .int .i64 ab.first, .int .u32 ab.dip, .int .i64 ab.exp]); binOp .neq 50 (.agg #[.int .u32 aa.vip, .int .i64 aa.first, .int .u32 aa.dip, .int .i64 aa.exp]) (.agg #[.int .u32 ab.vip, .int .i64 ab.first, .int .u32 ab.dip, .int .i64 ab.exp])) w_ = .ok (.bool (!(aa.vip == ab.vip && (aa.first == ab.first && (aa.dip == ab.dip && (aa.exp == ab.exp && true)))))) w_ := fun w_ => (run_neq_S (by kernel_rfl))
   refine WD.semP (NPt (NPb (NPt (NPt (NPb (NPt hN)))))) 8 (do eqGuard .neq 50 (Operand.tmp 19) (Operand.tmp 23) (.agg #[.int .u32 aa.vip, .int .i64 aa.first, .int .u32 aa.dip, .int .i64 aa.exp]) (.agg #[.int .u32 ab.vip, .int .i64 ab.first, .int .u32 ab.dip, .int .i64 ab.exp]); binOp .neq 50 (.agg #[.int .u32 aa.vip, .int .i64 aa.first, .int .u32 aa.dip, .int .i64 aa.exp]) (.agg #[.int .u32 ab.vip, .int .i64 ab.first, .int .u32 ab.dip, .int .i64 ab.exp])) 24 (.bool (!(aa.vip == ab.vip && (aa.first == ab.first && (aa.dip == ab.dip && (aa.exp == ab.exp && true)))))) (by kernel_rfl) (by kernel_rfl) (fun _ _ => aA _) ac ?_
   refine WD.recast (show (.bool (!(aa.vip == ab.vip && (aa.first == ab.first && (aa.dip == ab.dip && (aa.exp == ab.exp && true))))) : Value) = .bool (!decide (aa = ab)) from by rw [lease_beq]) ?_
   refine WD.done (by kernel_rfl) ?_
   refine QXn (ap _ _ ?_)
   refine WCa 24 (!decide (aa = ab)) rfl (fun ad => ?_) (fun ad => ?_)
   ·
    have aE : (decide (aa = ab)) = false := by first | (simpa only [Bool.not_eq_true', Bool.not_eq_false'] using ad) | simpa using ad
    refine WCt rfl ?_
    refine WCs (fun aP aq => ?_)
    refine WCg (WLq 1 [(4, .bool false)] (WLd rfl (QXn (aq _ _ ?_))))
    refine WC.ret ?_
    refine QXk ?_
    refine QXr ?_
    refine QXr ?_
    refine QXk ?_
    refine QXr ?_
    refine (hret _ _ _ rfl ?_).1
    clear hN hret hret' aq ap ao an ai ah ag af hK6 hK4 hK2
    exact ⟨congrArg (fun b_ => Ending.returned (Value.bool b_)) (eqs_miss ak al (by assumption)).symm, ae.fr⟩
   ·
    have aE : (decide (aa = ab)) = true := by first | (simpa only [Bool.not_eq_true', Bool.not_eq_false'] using ad) | simpa using ad
    refine WCf rfl (WC.skip ?_)
    refine QXb ?_
    refine QXn (an _ _ ?_)
    refine WCg (WLq 1 [(25, .int .i64 (IntKind.i64.wrap ((i : Int) + 1)))] ?_)
    refine WLt (show (.int .i64 (IntKind.i64.wrap ((i : Int) + 1)) : Value) = .int .i64 ((i : Int) + 1) from by rw [wrap_in_i64 ((i : Int) + 1) (by omega) (by omega)]) ?_
    refine WLq 1 [(13, .int .i64 ((i : Int) + 1))] ?_
    refine WLd rfl ?_
    refine QXn ?_
    have aB := ae.pick [] [] rfl rfl
    refine fun a_ ha_ => au _ _ _ ?_ ⟨i + 1, rfl, rfl, aB, by omega, eqs_snoc hpre ak al ad⟩ a_ (ha_.weaken (sub_of ⟨rfl, rfl, rfl, rfl, rfl, trivial⟩))
    omega
  ·
   have aC : (xs.length : Int) ≤ (i : Int) := by have q_ := of_decide_eq_false aj; omega
   refine WCf rfl ?_
   refine WC.exit ?_
   refine QXe ?_
   refine QXe ?_
   refine QX.block_hit ?_
   refine QXn (af _ _ ?_)
   refine WCs (fun aQ ar => ?_)
   refine WCg (WLq 1 [(4, .bool true)] (WLd rfl (QXn (ar _ _ ?_))))
   refine WC.ret ?_
   refine (hret _ _ _ rfl ?_).1
   clear hN hret hret' ar ai ah ag af hK6 hK4 hK2
   have hie_ : i = xs.length := by omega
   rw [List.take_of_length_le (by omega), List.take_of_length_le (by omega)] at hpre
   exact ⟨congrArg (fun b_ => Ending.returned (Value.bool b_)) (decide_eq_true hpre).symm, am.fr⟩

theorem eqL_n (A B : Option Addr) (n c n2 d : Nat) (xs ys : List Lease) (w : World) (hA : Rd w 4 encL A xs) (hB : Rd w 4 encL B ys) (h1 : xs.length = n) (h2 : ys.length = n2) (hlx : n ≤ 1099511627776) : Calls Tryz.prog 42 #[.slice A n c, .slice B n2 d] w fun e w' => e = .returned (.bool (decide (xs = ys))) ∧ Fr w w' [] := by subst h1 h2; exact eqL A B c d xs ys w hA hB hlx
theorem eqEnds (A B : Option Addr) (c d : Nat) (xs ys : List EndV) (w : World) (hA : Rd w 3 cellsE A xs) (hB : Rd w 3 cellsE B ys) (hlx : xs.length ≤ 1099511627776) : Calls Tryz.prog 38 #[.slice A xs.length c, .slice B ys.length d] w fun e w' => e = .returned (.bool (decide (xs = ys))) ∧ Fr w w' [] := by
 refine enterD (n := 26) Tryz.func38 rfl rfl (Nat.le_of_ble_eq_true rfl) ?_
 intro Q0 hN hret hret'
 have hC := Cx.start w
 refine WCs (fun K1 hK2 => ?_)
 refine WCg (WLq 1 [(4, .bool false)] (WLd rfl (QXn (hK2 _ _ ?_))))
 refine WCs (fun K3 hK4 => ?_)
 refine WCs (fun K5 hK6 => ?_)
 refine WCg (WLq 5 [(10, .bool ((xs.length : Int) != (ys.length : Int))), (9, .int .i64 (ys.length : Int)), (8, .slice B ys.length d), (7, .int .i64 (xs.length : Int)), (6, .slice A xs.length c)] (WLd rfl (QXn (hK6 _ _ ?_))))
 refine WCa 10 ((xs.length : Int) != (ys.length : Int)) rfl (fun t7b => ?_) (fun t7b => ?_)
 ·
  have t7 : (xs.length : Int) ≠ (ys.length : Int) := by simpa using t7b
  refine WCt rfl ?_
  refine WCs (fun K8 hK9 => ?_)
  refine WCg (WLq 1 [(4, .bool false)] (WLd rfl (QXn (hK9 _ _ ?_))))
  refine WC.ret ?_
  refine QXr ?_
  refine (hret _ _ _ rfl ?_).1
  exact ⟨congrArg (fun b_ => Ending.returned (Value.bool b_)) (decide_eq_false (fun e_ => by subst e_; omega)).symm, hC.fr⟩
 ·
  have t7 : (xs.length : Int) = (ys.length : Int) := by simpa using t7b
  refine WCf rfl (WC.skip (QXn (hK4 _ _ ?_)))
  refine WCs (fun aF af => ?_)
  refine WCs (fun aG ag => ?_)
  refine WCg (WLq 3 [(13, .int .i64 0), (12, .int .i64 (xs.length : Int)), (11, .slice A xs.length c)] (WLd rfl (QXn (ag _ _ ?_))))
  refine WC.block ?_
  refine WC.loop (fun m_ E_ w_ => ∃ (i : Nat), m_ = xs.length - i ∧ E_ = [(0, .slice A xs.length c), (1, .slice B ys.length d), (11, .slice A xs.length c), (12, .int .i64 (xs.length : Int)), (13, .int .i64 (i : Int))] ∧ Cx w [] w_ [] [] ∧ (i ≤ xs.length ∧ xs.take i = ys.take i)) ⟨_, _, ⟨0, rfl, rfl, hC, Nat.zero_le _, rfl⟩, sub_of ⟨rfl, rfl, rfl, rfl, rfl, trivial⟩⟩ (fun m17 E_ aH aI au av => ?_)
  obtain ⟨i, rfl, rfl, am, hi, hpre⟩ := av
  refine WCs (fun aJ ah => ?_)
  refine WCg (WLq 1 [(14, .bool (decide ((i : Int) < (xs.length : Int))))] (WLd rfl (QXn (ah _ _ ?_))))
  refine WCs (fun aK ai => ?_)
  refine WCa 14 (decide ((i : Int) < (xs.length : Int))) rfl (fun aj => ?_) (fun aj => ?_)
  ·
   have aC : (i : Int) < (xs.length : Int) := by have q_ := of_decide_eq_true aj; omega
   refine WCt rfl ?_
   refine WC.skip ?_
   refine QXn (ai _ _ ?_)
   refine WCs (fun aL an => ?_)
   refine WC.block ?_
   refine WCs (fun aM ao => ?_)
   refine WCg (WLq 2 [(5, .int .i64 (i : Int)), (15, .int .i64 (i : Int))] (WLd rfl (QXn (ao _ _ ?_))))
   refine WCs (fun aN ap => ?_)
   refine WC.drawC am [] (by kernel_rfl) (fun aO aD ae ac => ?_)
   refine WDq (NPt (NPb (NPt (NPt (NPb (NPt hN)))))) 0 16 (.slice A xs.length c) ac ?_
   refine WDq (NPt (NPb (NPt (NPt (NPb (NPt hN)))))) 1 17 (.int .i64 (i : Int)) ac ?_
   obtain ⟨aa, ak⟩ := get_some (xs := xs) (i := i) (by omega)
   obtain ⟨b37, o39, aw, ax⟩ := hA.at_ _ _ ak
   refine WDi (NPt (NPb (NPt (NPt (NPb (NPt hN)))))) 2 A xs.length c 18 .i64 (i : Int) b37 o39 i 3 (by kernel_rfl) (by kernel_rfl) aw (by omega) (by omega) (o39 + i * 3) (by first | (simp; done) | omega) ac ?_
   refine WDq (NPt (NPb (NPt (NPt (NPb (NPt hN)))))) 4 20 (.slice B ys.length d) ac ?_
   refine WDq (NPt (NPb (NPt (NPt (NPb (NPt hN)))))) 5 21 (.int .i64 (i : Int)) ac ?_
   obtain ⟨ab, al⟩ := get_some (xs := ys) (i := i) (by omega)
   obtain ⟨b43, o45, ay, az⟩ := hB.at_ _ _ al
   refine WDi (NPt (NPb (NPt (NPt (NPb (NPt hN)))))) 6 B ys.length d 22 .i64 (i : Int) b43 o45 i 3 (by kernel_rfl) (by kernel_rfl) ay (by omega) (by omega) (o45 + i * 3) (by first | (simp; done) | omega) ac ?_
   refine WDm (NPt (NPb (NPt (NPt (NPb (NPt hN)))))) 3 47 (.pointer (some ⟨b37, o39 + i * 3, none⟩)) (.agg #[.int .u32 aa.dip, .int .i64 aa.port, .int .i64 aa.weight]) 19 (fun _ hS_ => run_rdN (l := [.int .u32 aa.dip, .int .i64 aa.port, .int .i64 aa.weight]) rfl rfl (fun j u hu => by have hq_ := Fr.cell hS_ (ae.fr.cell (ax j u hu) (by simp)) (by simp); simpa [Nat.add_assoc] using hq_)) ac ?_
   refine WDm (NPt (NPb (NPt (NPt (NPb (NPt hN)))))) 7 47 (.pointer (some ⟨b43, o45 + i * 3, none⟩)) (.agg #[.int .u32 ab.dip, .int .i64 ab.port, .int .i64 ab.weight]) 23 (fun _ hS_ => run_rdN (l := [.int .u32 ab.dip, .int .i64 ab.port, .int .i64 ab.weight]) rfl rfl (fun j u hu => by have hq_ := Fr.cell hS_ (ae.fr.cell (az j u hu) (by simp)) (by simp); simpa [Nat.add_assoc] using hq_)) ac ?_
   have aA : ∀ w_, Sem.run Tryz.prog (do eqGuard .neq 47 (Operand.tmp 19) (Operand.tmp 23) (.agg #[.int .u32 aa.dip, .int .i64 aa.port, .int .i64 aa.weight]) (.agg #[.int .u32 ab.dip, .int .i64 ab.port, .int .i64 ab.weight]); binOp .neq 47 (.agg #[.int .u32 aa.dip, .int .i64 aa.port, .int .i64 aa.weight]) (.agg #[.int .u32 ab.dip, .int .i64 ab.port, .int .i64 ab.weight])) w_ = .ok (.bool (!(aa.dip == ab.dip && (aa.port == ab.port && (aa.weight == ab.weight && true))))) w_ := fun w_ => (run_neq_S (by kernel_rfl))
   refine WD.semP (NPt (NPb (NPt (NPt (NPb (NPt hN)))))) 8 (do eqGuard .neq 47 (Operand.tmp 19) (Operand.tmp 23) (.agg #[.int .u32 aa.dip, .int .i64 aa.port, .int .i64 aa.weight]) (.agg #[.int .u32 ab.dip, .int .i64 ab.port, .int .i64 ab.weight]); binOp .neq 47 (.agg #[.int .u32 aa.dip, .int .i64 aa.port, .int .i64 aa.weight]) (.agg #[.int .u32 ab.dip, .int .i64 ab.port, .int .i64 ab.weight])) 24 (.bool (!(aa.dip == ab.dip && (aa.port == ab.port && (aa.weight == ab.weight && true))))) (by kernel_rfl) (by kernel_rfl) (fun _ _ => aA _) ac ?_
   refine WD.recast (show (.bool (!(aa.dip == ab.dip && (aa.port == ab.port && (aa.weight == ab.weight && true)))) : Value) = .bool (!decide (aa = ab)) from by rw [endV_beq]) ?_
   refine WD.done (by kernel_rfl) ?_
   refine QXn (ap _ _ ?_)
   refine WCa 24 (!decide (aa = ab)) rfl (fun ad => ?_) (fun ad => ?_)
   ·
    have aE : (decide (aa = ab)) = false := by first | (simpa only [Bool.not_eq_true', Bool.not_eq_false'] using ad) | simpa using ad
    refine WCt rfl ?_
    refine WCs (fun aP aq => ?_)
    refine WCg (WLq 1 [(4, .bool false)] (WLd rfl (QXn (aq _ _ ?_))))
    refine WC.ret ?_
    refine QXk ?_
    refine QXr ?_
    refine QXr ?_
    refine QXk ?_
    refine QXr ?_
    refine (hret _ _ _ rfl ?_).1
    clear hN hret hret' aq ap ao an ai ah ag af hK6 hK4 hK2
    exact ⟨congrArg (fun b_ => Ending.returned (Value.bool b_)) (eqs_miss ak al (by assumption)).symm, ae.fr⟩
   ·
    have aE : (decide (aa = ab)) = true := by first | (simpa only [Bool.not_eq_true', Bool.not_eq_false'] using ad) | simpa using ad
    refine WCf rfl (WC.skip ?_)
    refine QXb ?_
    refine QXn (an _ _ ?_)
    refine WCg (WLq 1 [(25, .int .i64 (IntKind.i64.wrap ((i : Int) + 1)))] ?_)
    refine WLt (show (.int .i64 (IntKind.i64.wrap ((i : Int) + 1)) : Value) = .int .i64 ((i : Int) + 1) from by rw [wrap_in_i64 ((i : Int) + 1) (by omega) (by omega)]) ?_
    refine WLq 1 [(13, .int .i64 ((i : Int) + 1))] ?_
    refine WLd rfl ?_
    refine QXn ?_
    have aB := ae.pick [] [] rfl rfl
    refine fun a_ ha_ => au _ _ _ ?_ ⟨i + 1, rfl, rfl, aB, by omega, eqs_snoc hpre ak al ad⟩ a_ (ha_.weaken (sub_of ⟨rfl, rfl, rfl, rfl, rfl, trivial⟩))
    omega
  ·
   have aC : (xs.length : Int) ≤ (i : Int) := by have q_ := of_decide_eq_false aj; omega
   refine WCf rfl ?_
   refine WC.exit ?_
   refine QXe ?_
   refine QXe ?_
   refine QX.block_hit ?_
   refine QXn (af _ _ ?_)
   refine WCs (fun aQ ar => ?_)
   refine WCg (WLq 1 [(4, .bool true)] (WLd rfl (QXn (ar _ _ ?_))))
   refine WC.ret ?_
   refine (hret _ _ _ rfl ?_).1
   clear hN hret hret' ar ai ah ag af hK6 hK4 hK2
   have hie_ : i = xs.length := by omega
   rw [List.take_of_length_le (by omega), List.take_of_length_le (by omega)] at hpre
   exact ⟨congrArg (fun b_ => Ending.returned (Value.bool b_)) (decide_eq_true hpre).symm, am.fr⟩

theorem eqEnds_n (A B : Option Addr) (n c n2 d : Nat) (xs ys : List EndV) (w : World) (hA : Rd w 3 cellsE A xs) (hB : Rd w 3 cellsE B ys) (h1 : xs.length = n) (h2 : ys.length = n2) (hlx : n ≤ 1099511627776) : Calls Tryz.prog 38 #[.slice A n c, .slice B n2 d] w fun e w' => e = .returned (.bool (decide (xs = ys))) ∧ Fr w w' [] := by subst h1 h2; exact eqEnds A B c d xs ys w hA hB hlx
theorem likeS_ct (a b : Svc) (w : World) (ha : svcAt w a) (hb : svcAt w b) : Calls Tryz.prog 36 #[.agg #[.int .u32 a.v.vip, .int .i64 a.v.proto, .int .i64 a.v.port, .slice a.a a.v.ends.length a.c], .agg #[.int .u32 b.v.vip, .int .i64 b.v.proto, .int .i64 b.v.port, .slice b.a b.v.ends.length b.c]] w fun e w' => e = .returned (.bool (decide (a.v = b.v))) ∧ Fr w w' [] := by
 refine enterD (n := 16) Tryz.func36 rfl rfl (Nat.le_of_ble_eq_true rfl) ?_
 intro Q0 hN hret hret'
 have hC := Cx.start w
 refine WCs (fun K1 hK2 => ?_)
 refine WCg ?_
 refine WL.newM hC (fun b => .pointer (some ⟨b, 0, none⟩)) (.cells #[.int .u32 a.v.vip, .int .i64 a.v.proto, .int .i64 a.v.port, .slice a.a a.v.ends.length a.c] 43) 2 (fun _ => by kernel_rfl) (fun g3 w4 hb7 hF5 hC6 => ?_)
 refine WL.newM hC6 (fun b => .pointer (some ⟨b, 0, none⟩)) (.cells #[.int .u32 b.v.vip, .int .i64 b.v.proto, .int .i64 b.v.port, .slice b.a b.v.ends.length b.c] 43) 3 (fun _ => by kernel_rfl) (fun g8 w9 ah ai ac => ?_)
 refine WLq 1 [(4, .bool false)] (WLd rfl (QXn (hK2 _ _ ?_)))
 refine WCs (fun al ad => ?_)
 refine WCg ?_
 refine WLo 43 (.pointer (some ⟨g3, 0, none⟩)) (.agg #[.int .u32 a.v.vip, .int .i64 a.v.proto, .int .i64 a.v.port, .slice a.a a.v.ends.length a.c]) 5 (run_ld (ac.get 0 rfl) rfl) ?_
 refine WLo 43 (.pointer (some ⟨g8, 0, none⟩)) (.agg #[.int .u32 b.v.vip, .int .i64 b.v.proto, .int .i64 b.v.port, .slice b.a b.v.ends.length b.c]) 6 (run_ld (ac.get 1 rfl) rfl) ?_
 refine WLc rfl rfl rfl rfl rfl (by kernel_rfl) (byName_ct a b w9) ?_
 rintro _ aj ⟨rfl, ae⟩
 refine ⟨_, rfl, ?_⟩
 have aa := ac.call ae
 refine WLq 2 [(9, .bool ((cmp3 (kS a) (kS b)) == 0)), (8, .bool ((cmp3 (kS a) (kS b)) == 0))] ?_
 refine WLa 9 ((cmp3 (kS a) (kS b)) == 0) rfl (fun ab => ?_) (fun ab => ?_)
 ·
  have ak : (cmp3 (kS a) (kS b)) = 0 := by simpa using ab
  refine WLq 1 [(10, .pointer (some ⟨g3, 3, none⟩))] ?_
  refine WLo 41 (.pointer (some ⟨g3, 3, none⟩)) (.slice a.a a.v.ends.length a.c) 11 (run_ld (aa.get 0 rfl) rfl) ?_
  refine WLq 1 [(12, .pointer (some ⟨g8, 3, none⟩))] ?_
  refine WLo 41 (.pointer (some ⟨g8, 3, none⟩)) (.slice b.a b.v.ends.length b.c) 13 (run_ld (aa.get 1 rfl) rfl) ?_
  refine WLc rfl rfl rfl rfl rfl (by kernel_rfl) (eqEnds_n a.a b.a a.v.ends.length a.c b.v.ends.length b.c a.v.ends b.v.ends aj (Rd.fr ha.rd aa.fr) (Rd.fr hb.rd aa.fr) rfl rfl (by first | exact ha.lim | omega)) ?_
  rintro _ am ⟨rfl, af⟩
  refine ⟨_, rfl, ?_⟩
  have ag := aa.call af
  refine WLq 2 [(4, .bool (decide (a.v.ends = b.v.ends))), (15, .bool (decide (a.v.ends = b.v.ends)))] (WLd rfl (QXn (ad _ _ ?_)))
  refine WC.ret ?_
  refine (hret _ _ _ rfl ?_).1
  exact ⟨congrArg (fun b_ => Ending.returned (Value.bool b_)) (dec_of ⟨fun h_ => like_kS (by simpa using ab) h_, fun h_ => by rw [h_]⟩), ag.fr⟩
 ·
  have ak : ¬ ((cmp3 (kS a) (kS b)) = 0) := by simpa using ab
  refine WLq 7 [(4, .bool false), (15, .bool false), (14, undef), (13, undef), (12, undef), (11, undef), (10, undef)] (WLd rfl (QXn (ad _ _ ?_)))
  refine WC.ret ?_
  refine (hret _ _ _ rfl ?_).1
  exact ⟨congrArg (fun b_ => Ending.returned (Value.bool b_)) (decide_eq_false (like_no1 (by simpa using ab))).symm, aa.fr⟩

theorem eqFuncS_ct (A B : Option Addr) (c d : Nat) (xs ys : List Svc) (w : World) (hA : Rd w 4 cellsS A xs) (hB : Rd w 4 cellsS B ys) (hatA : ∀ s ∈ xs, svcAt w s) (hatB : ∀ s ∈ ys, svcAt w s) (hlx : xs.length ≤ 1099511627776) : Calls Tryz.prog 39 #[.slice A xs.length c, .slice B ys.length d, .func (.func 36) #[] #[]] w fun e w' => e = .returned (.bool (decide (xs.map (·.v) = ys.map (·.v)))) ∧ Fr w w' [] := by
 refine enterD (n := 32) Tryz.func39 rfl rfl (Nat.le_of_ble_eq_true rfl) ?_
 intro Q0 hN hret hret'
 have hC := Cx.start w
 refine WCs (fun K1 hK2 => ?_)
 refine WCg (WLq 1 [(6, .bool false)] (WLd rfl (QXn (hK2 _ _ ?_))))
 refine WCs (fun K3 hK4 => ?_)
 refine WCs (fun K5 hK6 => ?_)
 refine WCg (WLq 5 [(14, .bool ((xs.length : Int) != (ys.length : Int))), (13, .int .i64 (ys.length : Int)), (12, .slice B ys.length d), (11, .int .i64 (xs.length : Int)), (10, .slice A xs.length c)] (WLd rfl (QXn (hK6 _ _ ?_))))
 refine WCa 14 ((xs.length : Int) != (ys.length : Int)) rfl (fun t7b => ?_) (fun t7b => ?_)
 ·
  have t7 : (xs.length : Int) ≠ (ys.length : Int) := by simpa using t7b
  refine WCt rfl ?_
  refine WCs (fun K8 hK9 => ?_)
  refine WCg (WLq 1 [(6, .bool false)] (WLd rfl (QXn (hK9 _ _ ?_))))
  refine WC.ret ?_
  refine QXr ?_
  refine (hret _ _ _ rfl ?_).1
  exact ⟨congrArg (fun b_ => Ending.returned (Value.bool b_)) (decide_eq_false (eqv_len (by omega))).symm, hC.fr⟩
 ·
  have t7 : (xs.length : Int) = (ys.length : Int) := by simpa using t7b
  refine WCf rfl (WC.skip (QXn (hK4 _ _ ?_)))
  refine WCs (fun aT am => ?_)
  refine WCs (fun aU an => ?_)
  refine WCg (WLq 3 [(17, .int .i64 0), (16, .int .i64 (xs.length : Int)), (15, .slice A xs.length c)] (WLd rfl (QXn (an _ _ ?_))))
  refine WC.block ?_
  refine WC.loop (fun m_ E_ w_ => ∃ (i : Nat), m_ = xs.length - i ∧ E_ = [(0, .slice A xs.length c), (1, .slice B ys.length d), (2, .func (.func 36) #[] #[]), (10, .slice A xs.length c), (11, .int .i64 (xs.length : Int)), (12, .slice B ys.length d), (13, .int .i64 (ys.length : Int)), (14, .bool false), (15, .slice A xs.length c), (16, .int .i64 (xs.length : Int)), (17, .int .i64 (i : Int))] ∧ Cx w [] w_ [] [] ∧ (i ≤ xs.length ∧ (xs.take i).map (·.v) = (ys.take i).map (·.v))) ⟨_, _, ⟨0, rfl, rfl, hC, Nat.zero_le _, rfl⟩, sub_of ⟨rfl, rfl, rfl, rfl, rfl, rfl, rfl, rfl, rfl, rfl, rfl, trivial⟩⟩ (fun m17 E_ aV aW ao ap => ?_)
  obtain ⟨i, rfl, rfl, ai, hi, hpre⟩ := ap
  refine WCs (fun aX aq => ?_)
  refine WCg (WLq 1 [(18, .bool (decide ((i : Int) < (xs.length : Int))))] (WLd rfl (QXn (aq _ _ ?_))))
  refine WCs (fun aY ar => ?_)
  refine WCa 18 (decide ((i : Int) < (xs.length : Int))) rfl (fun aj => ?_) (fun aj => ?_)
  ·
   have aK : (i : Int) < (xs.length : Int) := by have q_ := of_decide_eq_true aj; omega
   refine WCt rfl ?_
   refine WC.skip ?_
   refine QXn (ar _ _ ?_)
   refine WCs (fun aZ au => ?_)
   refine WC.block ?_
   refine WCs (fun a0 av => ?_)
   refine WCg (WLq 1 [(19, .int .i64 (i : Int))] ?_)
   obtain ⟨aa, ae⟩ := get_some (xs := xs) (i := i) (by omega)
   obtain ⟨b31, o33, aw, ax⟩ := hA.at_ _ _ ae
   have af := hatA _ (List.mem_of_getElem? ae)
   refine WLi A xs.length c 20 .i64 (i : Int) b31 o33 i 4 (by kernel_rfl) aw (by omega) (by omega) (o33 + i * 4) (by first | (simp; done) | omega) ?_
   refine WLo 43 (.pointer (some ⟨b31, o33 + i * 4, none⟩)) (.agg #[.int .u32 aa.v.vip, .int .i64 aa.v.proto, .int .i64 aa.v.port, .slice aa.a aa.v.ends.length aa.c]) 21 (run_rdN (l := [.int .u32 aa.v.vip, .int .i64 aa.v.proto, .int .i64 aa.v.port, .slice aa.a aa.v.ends.length aa.c]) rfl rfl (fun j u hu => by have hq_ := ai.fr.cell (ax j u hu) (by simp); simpa [Nat.add_assoc] using hq_)) ?_
   refine WL.newM ai (fun b => .pointer (some ⟨b, 0, none⟩)) (.cells #[.int .u32 0, .int .i64 0, .int .i64 0, .slice none 0 0] 43) 8 (fun _ => by kernel_rfl) (fun aI a1 aL aM ay => ?_)
   refine WLq 1 [(7, .int .i64 (i : Int))] ?_
   refine WLs (c' := #[.int .u32 aa.v.vip, .int .i64 aa.v.proto, .int .i64 aa.v.port, .slice aa.a aa.v.ends.length aa.c]) ay 0 43 aI 0 (.agg #[.int .u32 aa.v.vip, .int .i64 aa.v.proto, .int .i64 aa.v.port, .slice aa.a aa.v.ends.length aa.c]) (by kernel_rfl) rfl (by kernel_rfl) (fun a2 aN ak => ?_)
   refine WLd rfl (QXn (av _ _ ?_))
   refine WCs (fun a3 az => ?_)
   refine WCg (WLq 2 [(23, .int .i64 (i : Int)), (22, .slice B ys.length d)] ?_)
   obtain ⟨ab, ag⟩ := get_some (xs := ys) (i := i) (by omega)
   obtain ⟨b48, o50, aA, aB⟩ := hB.at_ _ _ ag
   have ah := hatB _ (List.mem_of_getElem? ag)
   refine WLi B ys.length d 24 .i64 (i : Int) b48 o50 i 4 (by kernel_rfl) aA (by omega) (by omega) (o50 + i * 4) (by first | (simp; done) | omega) ?_
   refine WLo 43 (.pointer (some ⟨b48, o50 + i * 4, none⟩)) (.agg #[.int .u32 ab.v.vip, .int .i64 ab.v.proto, .int .i64 ab.v.port, .slice ab.a ab.v.ends.length ab.c]) 25 (run_rdN (l := [.int .u32 ab.v.vip, .int .i64 ab.v.proto, .int .i64 ab.v.port, .slice ab.a ab.v.ends.length ab.c]) rfl rfl (fun j u hu => by have hq_ := ak.fr.cell (aB j u hu) (by simp); simpa [Nat.add_assoc] using hq_)) ?_
   refine WL.newM ak (fun b => .pointer (some ⟨b, 0, none⟩)) (.cells #[.int .u32 0, .int .i64 0, .int .i64 0, .slice none 0 0] 43) 9 (fun _ => by kernel_rfl) (fun aJ a4 aO aP aC => ?_)
   refine WLs (c' := #[.int .u32 ab.v.vip, .int .i64 ab.v.proto, .int .i64 ab.v.port, .slice ab.a ab.v.ends.length ab.c]) aC 1 43 aJ 0 (.agg #[.int .u32 ab.v.vip, .int .i64 ab.v.proto, .int .i64 ab.v.port, .slice ab.a ab.v.ends.length ab.c]) (by kernel_rfl) rfl (by kernel_rfl) (fun aQ aR ad => ?_)
   refine WLd rfl (QXn (az _ _ ?_))
   refine WCs (fun a5 aD => ?_)
   refine WCg (WLq 1 [(26, .func (.func 36) #[] #[])] ?_)
   refine WLo 43 (.pointer (some ⟨aI, 0, none⟩)) (.agg #[.int .u32 aa.v.vip, .int .i64 aa.v.proto, .int .i64 aa.v.port, .slice aa.a aa.v.ends.length aa.c]) 27 (run_ld (ad.get 0 rfl) rfl) ?_
   refine WLo 43 (.pointer (some ⟨aJ, 0, none⟩)) (.agg #[.int .u32 ab.v.vip, .int .i64 ab.v.proto, .int .i64 ab.v.port, .slice ab.a ab.v.ends.length ab.c]) 28 (run_ld (ad.get 1 rfl) rfl) ?_
   refine WLc rfl rfl rfl rfl rfl (by kernel_rfl) (likeS_ct aa ab aQ ((af).fr ad.fr (fun _ _ => by simp)) ((ah).fr ad.fr (fun _ _ => by simp))) ?_
   rintro _ a6 ⟨rfl, aE⟩
   refine ⟨_, rfl, ?_⟩
   have al := ad.call aE
   refine WLq 1 [(30, .bool (!(decide (aa.v = ab.v))))] (WLd rfl (QXn (aD _ _ ?_)))
   refine WCa 30 (!(decide (aa.v = ab.v))) rfl (fun ac => ?_) (fun ac => ?_)
   ·
    have aS : (decide (aa.v = ab.v)) = false := by first | (simpa only [Bool.not_eq_true', Bool.not_eq_false'] using ac) | simpa using ac
    refine WCt rfl ?_
    refine WCs (fun a7 aF => ?_)
    refine WCg (WLq 1 [(6, .bool false)] (WLd rfl (QXn (aF _ _ ?_))))
    refine WC.ret ?_
    refine QXk ?_
    refine QXr ?_
    refine QXr ?_
    refine QXk ?_
    refine QXr ?_
    refine (hret _ _ _ rfl ?_).1
    exact ⟨congrArg (fun b_ => Ending.returned (Value.bool b_)) (decide_eq_false (eqv_miss ae ag (by simpa using ac))).symm, al.fr⟩
   ·
    have aS : (decide (aa.v = ab.v)) = true := by first | (simpa only [Bool.not_eq_true', Bool.not_eq_false'] using ac) | simpa using ac
    refine WCf rfl (WC.skip ?_)
    refine QXb ?_
    refine QXn (au _ _ ?_)
    refine WCg (WLq 1 [(31, .int .i64 (IntKind.i64.wrap ((i : Int) + 1)))] ?_)
    refine WLt (show (.int .i64 (IntKind.i64.wrap ((i : Int) + 1)) : Value) = .int .i64 ((i : Int) + 1) from by rw [wrap_in_i64 ((i : Int) + 1) (by omega) (by omega)]) ?_
    refine WLq 1 [(17, .int .i64 ((i : Int) + 1))] ?_
    refine WLd rfl ?_
    refine QXn ?_
    have aG := al.pick [] [] rfl rfl
    refine fun a_ ha_ => ao _ _ _ ?_ ⟨i + 1, rfl, rfl, aG, by omega, eqv_snoc hpre ae ag (by simpa using ac)⟩ a_ (ha_.weaken (sub_of ⟨rfl, rfl, rfl, rfl, rfl, rfl, rfl, rfl, rfl, rfl, rfl, trivial⟩))
    omega
  ·
   have aK : (xs.length : Int) ≤ (i : Int) := by have q_ := of_decide_eq_false aj; omega
   refine WCf rfl ?_
   refine WC.exit ?_
   refine QXe ?_
   refine QXe ?_
   refine QX.block_hit ?_
   refine QXn (am _ _ ?_)
   refine WCs (fun a8 aH => ?_)
   refine WCg (WLq 1 [(6, .bool true)] (WLd rfl (QXn (aH _ _ ?_))))
   refine WC.ret ?_
   refine (hret _ _ _ rfl ?_).1
   exact ⟨congrArg (fun b_ => Ending.returned (Value.bool b_)) (decide_eq_true (eqv_end hpre (by omega) (by omega))).symm, ai.fr⟩

theorem eqFuncS_n (A B : Option Addr) (n c n2 d : Nat) (xs ys : List Svc) (w : World) (hA : Rd w 4 cellsS A xs) (hB : Rd w 4 cellsS B ys) (hatA : ∀ s ∈ xs, svcAt w s) (hatB : ∀ s ∈ ys, svcAt w s) (h1 : xs.length = n) (h2 : ys.length = n2) (hlx : n ≤ 1099511627776) : Calls Tryz.prog 39 #[.slice A n c, .slice B n2 d, .func (.func 36) #[] #[]] w fun e w' => e = .returned (.bool (decide (xs.map (·.v) = ys.map (·.v)))) ∧ Fr w w' [] := by subst h1 h2; exact eqFuncS_ct A B c d xs ys w hA hB hatA hatB hlx
set_option maxHeartbeats 1000000 in
theorem Same_ct (ce1 cn1 : Int) (AS1 : Option Addr) (cS1 : Nat) (xs1 : List Svc) (AN1 : Option Addr) (cN1 : Nat) (ns1 : List SnatV) (AK1 : Option Addr) (cK1 : Nat) (ks1 : List Int) (AL1 : Option Addr) (cL1 : Nat) (ls1 : List Lease) (ce2 cn2 : Int) (AS2 : Option Addr) (cS2 : Nat) (xs2 : List Svc) (AN2 : Option Addr) (cN2 : Nat) (ns2 : List SnatV) (AK2 : Option Addr) (cK2 : Nat) (ks2 : List Int) (AL2 : Option Addr) (cL2 : Nat) (ls2 : List Lease) (w : World) (hqS1 : Rd w 4 cellsS AS1 xs1) (hat1 : ∀ s ∈ xs1, svcAt w s) (hqN1 : Rd w 2 cellsN AN1 ns1) (hqK1 : Rd w 1 (Go.Tw.encI .u32) AK1 ks1) (hqL1 : Rd w 4 encL AL1 ls1) (hlS1 : xs1.length ≤ 1099511627776) (hlN1 : ns1.length ≤ 1099511627776) (hlK1 : ks1.length ≤ 1099511627776) (hlL1 : ls1.length ≤ 1099511627776) (hqS2 : Rd w 4 cellsS AS2 xs2) (hat2 : ∀ s ∈ xs2, svcAt w s) (hqN2 : Rd w 2 cellsN AN2 ns2) (hqK2 : Rd w 1 (Go.Tw.encI .u32) AK2 ks2) (hqL2 : Rd w 4 encL AL2 ls2) (hlS2 : xs2.length ≤ 1099511627776) (hlN2 : ns2.length ≤ 1099511627776) (hlK2 : ks2.length ≤ 1099511627776) (hlL2 : ls2.length ≤ 1099511627776) : Calls Tryz.prog 14 #[.agg #[.int .i64 ce1, .int .i64 cn1, .slice AS1 xs1.length cS1, .slice AN1 ns1.length cN1, .slice AK1 ks1.length cK1, .slice AL1 ls1.length cL1], .agg #[.int .i64 ce2, .int .i64 cn2, .slice AS2 xs2.length cS2, .slice AN2 ns2.length cN2, .slice AK2 ks2.length cK2, .slice AL2 ls2.length cL2]] w fun e w' => e = .returned (.bool (decide ((⟨ce1, cn1, xs1.map (·.v), ns1, ks1, ls1⟩ : CfgV) = (⟨ce2, cn2, xs2.map (·.v), ns2, ks2, ls2⟩ : CfgV)))) ∧ Fr w w' [] := by
 refine enterD (n := 47) Tryz.func14 rfl rfl (Nat.le_of_ble_eq_true rfl) ?_
 intro Q0 hN hret hret'
 have hC := Cx.start w
 refine WCs (fun K1 hK2 => ?_)
 refine WCg ?_
 refine WL.newM hC (fun b => .pointer (some ⟨b, 0, none⟩)) (.cells #[.int .i64 ce1, .int .i64 cn1, .slice AS1 xs1.length cS1, .slice AN1 ns1.length cN1, .slice AK1 ks1.length cK1, .slice AL1 ls1.length cL1] 31) 2 (fun _ => by kernel_rfl) (fun g3 w4 hb7 hF5 hC6 => ?_)
 refine WL.newM hC6 (fun b => .pointer (some ⟨b, 0, none⟩)) (.cells #[.int .i64 ce2, .int .i64 cn2, .slice AS2 xs2.length cS2, .slice AN2 ns2.length cN2, .slice AK2 ks2.length cK2, .slice AL2 ls2.length cL2] 31) 3 (fun _ => by kernel_rfl) (fun g8 w9 aq ar aa => ?_)
 refine WLq 1 [(4, .bool false)] (WLd rfl (QXn (hK2 _ _ ?_)))
 refine WCs (fun aC ak => ?_)
 refine WCg (WLq 1 [(5, .func (.func 36) #[] #[])] (WLd rfl (QXn (ak _ _ ?_))))
 refine WCs (fun aD ab => ?_)
 refine WCg (WLq 1 [(6, .pointer (some ⟨g3, 0, none⟩))] ?_)
 refine WLo 3 (.pointer (some ⟨g3, 0, none⟩)) (.int .i64 ce1) 7 (run_ld (aa.get 0 rfl) rfl) ?_
 refine WLq 1 [(8, .pointer (some ⟨g8, 0, none⟩))] ?_
 refine WLo 3 (.pointer (some ⟨g8, 0, none⟩)) (.int .i64 ce2) 9 (run_ld (aa.get 1 rfl) rfl) ?_
 refine WLq 2 [(11, .bool (ce1 == ce2)), (10, .bool (ce1 == ce2))] ?_
 refine WLa 11 (ce1 == ce2) rfl (fun ac => ?_) (fun ac => ?_)
 ·
  have au : ce1 = ce2 := by simpa using ac
  refine WLq 1 [(12, .pointer (some ⟨g3, 1, none⟩))] ?_
  refine WLo 3 (.pointer (some ⟨g3, 1, none⟩)) (.int .i64 cn1) 13 (run_ld (aa.get 0 rfl) rfl) ?_
  refine WLq 1 [(14, .pointer (some ⟨g8, 1, none⟩))] ?_
  refine WLo 3 (.pointer (some ⟨g8, 1, none⟩)) (.int .i64 cn2) 15 (run_ld (aa.get 1 rfl) rfl) ?_
  refine WLq 3 [(18, .bool (cn1 == cn2)), (17, .bool (cn1 == cn2)), (16, .bool (cn1 == cn2))] ?_
  refine WLa 18 (cn1 == cn2) rfl (fun ad => ?_) (fun ad => ?_)
  ·
   have av : cn1 = cn2 := by simpa using ad
   refine WLq 1 [(19, .pointer (some ⟨g3, 2, none⟩))] ?_
   refine WLo 26 (.pointer (some ⟨g3, 2, none⟩)) (.slice AS1 xs1.length cS1) 20 (run_ld (aa.get 0 rfl) rfl) ?_
   refine WLq 1 [(21, .pointer (some ⟨g8, 2, none⟩))] ?_
   refine WLo 26 (.pointer (some ⟨g8, 2, none⟩)) (.slice AS2 xs2.length cS2) 22 (run_ld (aa.get 1 rfl) rfl) ?_
   refine WLq 1 [(23, .func (.func 36) #[] #[])] ?_
   refine WLc rfl rfl rfl rfl rfl (by kernel_rfl) (eqFuncS_n AS1 AS2 xs1.length cS1 xs2.length cS2 xs1 xs2 w9 (Rd.fr hqS1 aa.fr) (Rd.fr hqS2 aa.fr) (fun s_ h_ => (hat1 s_ h_).fr aa.fr (fun _ _ => by simp)) (fun s_ h_ => (hat2 s_ h_).fr aa.fr (fun _ _ => by simp)) rfl rfl (by omega)) ?_
   rintro _ aw ⟨rfl, al⟩
   refine ⟨_, rfl, ?_⟩
   have ae := aa.call al
   refine WLq 2 [(26, .bool (decide (xs1.map (·.v) = xs2.map (·.v)))), (25, .bool (decide (xs1.map (·.v) = xs2.map (·.v))))] ?_
   refine WLa 26 (decide (xs1.map (·.v) = xs2.map (·.v))) rfl (fun af => ?_) (fun af => ?_)
   ·
    have ax : xs1.map (·.v) = xs2.map (·.v) := of_decide_eq_true af
    refine WLq 1 [(27, .pointer (some ⟨g3, 3, none⟩))] ?_
    refine WLo 27 (.pointer (some ⟨g3, 3, none⟩)) (.slice AN1 ns1.length cN1) 28 (run_ld (ae.get 0 rfl) rfl) ?_
    refine WLq 1 [(29, .pointer (some ⟨g8, 3, none⟩))] ?_
    refine WLo 27 (.pointer (some ⟨g8, 3, none⟩)) (.slice AN2 ns2.length cN2) 30 (run_ld (ae.get 1 rfl) rfl) ?_
    refine WLc rfl rfl rfl rfl rfl (by kernel_rfl) (eqN_n AN1 AN2 ns1.length cN1 ns2.length cN2 ns1 ns2 aw (Rd.fr hqN1 ae.fr) (Rd.fr hqN2 ae.fr) (by first | rfl | assumption | (simp; done) | (simp; omega)) (by first | rfl | assumption | (simp; done) | (simp; omega)) (by omega)) ?_
    rintro _ ay ⟨rfl, am⟩
    refine ⟨_, rfl, ?_⟩
    have ag := ae.call am
    refine WLq 2 [(33, .bool (decide (ns1 = ns2))), (32, .bool (decide (ns1 = ns2)))] ?_
    refine WLa 33 (decide (ns1 = ns2)) rfl (fun ah => ?_) (fun ah => ?_)
    ·
     have az : ns1 = ns2 := of_decide_eq_true ah
     refine WLq 1 [(34, .pointer (some ⟨g3, 4, none⟩))] ?_
     refine WLo 28 (.pointer (some ⟨g3, 4, none⟩)) (.slice AK1 ks1.length cK1) 35 (run_ld (ag.get 0 rfl) rfl) ?_
     refine WLq 1 [(36, .pointer (some ⟨g8, 4, none⟩))] ?_
     refine WLo 28 (.pointer (some ⟨g8, 4, none⟩)) (.slice AK2 ks2.length cK2) 37 (run_ld (ag.get 1 rfl) rfl) ?_
     refine WLc rfl rfl rfl rfl rfl (by kernel_rfl) (eqA_n AK1 AK2 ks1.length cK1 ks2.length cK2 ks1 ks2 ay (Rd.fr hqK1 ag.fr) (Rd.fr hqK2 ag.fr) (by first | rfl | assumption | (simp; done) | (simp; omega)) (by first | rfl | assumption | (simp; done) | (simp; omega)) (by omega)) ?_
     rintro _ aA ⟨rfl, an⟩
     refine ⟨_, rfl, ?_⟩
     have ai := ag.call an
     refine WLq 2 [(40, .bool (decide (ks1 = ks2))), (39, .bool (decide (ks1 = ks2)))] ?_
     refine WLa 40 (decide (ks1 = ks2)) rfl (fun aj => ?_) (fun aj => ?_)
     ·
      have aB : ks1 = ks2 := of_decide_eq_true aj
      refine WLq 1 [(41, .pointer (some ⟨g3, 5, none⟩))] ?_
      refine WLo 29 (.pointer (some ⟨g3, 5, none⟩)) (.slice AL1 ls1.length cL1) 42 (run_ld (ai.get 0 rfl) rfl) ?_
      refine WLq 1 [(43, .pointer (some ⟨g8, 5, none⟩))] ?_
      refine WLo 29 (.pointer (some ⟨g8, 5, none⟩)) (.slice AL2 ls2.length cL2) 44 (run_ld (ai.get 1 rfl) rfl) ?_
      refine WLc rfl rfl rfl rfl rfl (by kernel_rfl) (eqL_n AL1 AL2 ls1.length cL1 ls2.length cL2 ls1 ls2 aA (Rd.fr hqL1 ai.fr) (Rd.fr hqL2 ai.fr) (by first | rfl | assumption | (simp; done) | (simp; omega)) (by first | rfl | assumption | (simp; done) | (simp; omega)) (by omega)) ?_
      rintro _ aE ⟨rfl, ao⟩
      refine ⟨_, rfl, ?_⟩
      have ap := ai.call ao
      refine WLq 2 [(4, .bool (decide (ls1 = ls2))), (46, .bool (decide (ls1 = ls2)))] (WLd rfl (QXn (ab _ _ ?_)))
      refine WC.ret ?_
      refine (hret _ _ _ rfl ?_).1
      exact ⟨congrArg (fun b_ => Ending.returned (Value.bool b_)) (dec_of ⟨fun h_ => cfg_ext.2 ⟨(by simpa using ac), (by simpa using ad), (by simpa using af), (by simpa using ah), (by simpa using aj), h_⟩, fun h_ => (cfg_ext.1 h_).2.2.2.2.2⟩), ap.fr⟩
     ·
      have aB : ¬ (ks1 = ks2) := of_decide_eq_false aj
      refine WLq 7 [(4, .bool false), (46, .bool false), (45, undef), (44, undef), (43, undef), (42, undef), (41, undef)] (WLd rfl (QXn (ab _ _ ?_)))
      refine WC.ret ?_
      refine (hret _ _ _ rfl ?_).1
      exact ⟨congrArg (fun b_ => Ending.returned (Value.bool b_)) (decide_eq_false (fun e_ => by have q_ := (cfg_ext.1 e_).2.2.2.2.1; first | (exact absurd q_ (by simpa using aj)) | (dsimp only at q_; simp [q_] at aj))).symm, ai.fr⟩
    ·
     have az : ¬ (ns1 = ns2) := of_decide_eq_false ah
     refine WLq 14 [(4, .bool false), (46, .bool false), (45, undef), (44, undef), (43, undef), (42, undef), (41, undef), (40, .bool false), (39, .bool false), (38, undef), (37, undef), (36, undef), (35, undef), (34, undef)] (WLd rfl (QXn (ab _ _ ?_)))
     refine WC.ret ?_
     refine (hret _ _ _ rfl ?_).1
     exact ⟨congrArg (fun b_ => Ending.returned (Value.bool b_)) (decide_eq_false (fun e_ => by have q_ := (cfg_ext.1 e_).2.2.2.1; first | (exact absurd q_ (by simpa using ah)) | (dsimp only at q_; simp [q_] at ah))).symm, ag.fr⟩
   ·
    have ax : ¬ (xs1.map (·.v) = xs2.map (·.v)) := of_decide_eq_false af
    refine WLq 21 [(4, .bool false), (46, .bool false), (45, undef), (44, undef), (43, undef), (42, undef), (41, undef), (40, .bool false), (39, .bool false), (38, undef), (37, undef), (36, undef), (35, undef), (34, undef), (33, .bool false), (32, .bool false), (31, undef), (30, undef), (29, undef), (28, undef), (27, undef)] (WLd rfl (QXn (ab _ _ ?_)))
    refine WC.ret ?_
    refine (hret _ _ _ rfl ?_).1
    exact ⟨congrArg (fun b_ => Ending.returned (Value.bool b_)) (decide_eq_false (fun e_ => by have q_ := (cfg_ext.1 e_).2.2.1; first | (exact absurd q_ (by simpa using af)) | (dsimp only at q_; simp [q_] at af))).symm, ae.fr⟩
  ·
   have av : ¬ (cn1 = cn2) := by simpa using ad
   refine WLq 29 [(4, .bool false), (46, .bool false), (45, undef), (44, undef), (43, undef), (42, undef), (41, undef), (40, .bool false), (39, .bool false), (38, undef), (37, undef), (36, undef), (35, undef), (34, undef), (33, .bool false), (32, .bool false), (31, undef), (30, undef), (29, undef), (28, undef), (27, undef), (26, .bool false), (25, .bool false), (24, undef), (23, undef), (22, undef), (21, undef), (20, undef), (19, undef)] (WLd rfl (QXn (ab _ _ ?_)))
   refine WC.ret ?_
   refine (hret _ _ _ rfl ?_).1
   exact ⟨congrArg (fun b_ => Ending.returned (Value.bool b_)) (decide_eq_false (fun e_ => by have q_ := (cfg_ext.1 e_).2.1; first | (exact absurd q_ (by simpa using ad)) | (dsimp only at q_; simp [q_] at ad))).symm, aa.fr⟩
 ·
  have au : ¬ (ce1 = ce2) := by simpa using ac
  refine WLq 36 [(4, .bool false), (46, .bool false), (45, undef), (44, undef), (43, undef), (42, undef), (41, undef), (40, .bool false), (39, .bool false), (38, undef), (37, undef), (36, undef), (35, undef), (34, undef), (33, .bool false), (32, .bool false), (31, undef), (30, undef), (29, undef), (28, undef), (27, undef), (26, .bool false), (25, .bool false), (24, undef), (23, undef), (22, undef), (21, undef), (20, undef), (19, undef), (18, .bool false), (17, .bool false), (16, undef), (15, undef), (14, undef), (13, undef), (12, undef)] (WLd rfl (QXn (ab _ _ ?_)))
  refine WC.ret ?_
  refine (hret _ _ _ rfl ?_).1
  exact ⟨congrArg (fun b_ => Ending.returned (Value.bool b_)) (decide_eq_false (fun e_ => by have q_ := (cfg_ext.1 e_).1; first | (exact absurd q_ (by simpa using ac)) | (dsimp only at q_; simp [q_] at ac))).symm, aa.fr⟩

end Go.Proofs.YtfligklljkcbfaaGreatDoor
