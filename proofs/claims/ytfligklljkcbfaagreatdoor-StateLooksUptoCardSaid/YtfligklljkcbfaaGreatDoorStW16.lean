/- Contracts of functions of the program, each proved by a walk through its code; conditions stand in the statements. -/
import Derived.Test.YtfligklljkcbfaaGreatDoorStR16
namespace Go.Proofs.YtfligklljkcbfaaGreatDoor
set_option linter.unusedSimpArgs false
set_option linter.unusedVariables false
set_option linter.unusedSectionVars false
open Go Go.RowKit Go.Tw
set_option linter.unusedVariables false
set_option maxRecDepth 20000
theorem cfg_ext {A B : CfgV} : A = B ↔ A.epoch = B.epoch ∧ A.now = B.now ∧ A.svcs = B.svcs ∧ A.snats = B.snats ∧ A.sick = B.sick ∧ A.leases = B.leases := by
  obtain ⟨a, b, c, d, e, f⟩ := A; obtain ⟨a', b', c', d', e', f'⟩ := B; simp
theorem svc_ext {a b : SvcV} : a = b ↔ (a.vip = b.vip ∧ a.proto = b.proto ∧ a.port = b.port) ∧ a.ends = b.ends := by
  obtain ⟨x, y, z, e⟩ := a; obtain ⟨x', y', z', e'⟩ := b; simp [and_assoc]
section
variable {xs ys : List Svc} {i : Nat} {a b : Svc}
theorem eqv_snoc (h : (xs.take i).map (·.v) = (ys.take i).map (·.v)) (ha : xs[i]? = some a) (hb : ys[i]? = some b) (he : a.v = b.v) : (xs.take (i + 1)).map (·.v) = (ys.take (i + 1)).map (·.v) := by
  obtain ⟨hi, h1⟩ := List.getElem?_eq_some_iff.1 ha
  obtain ⟨hj, h2⟩ := List.getElem?_eq_some_iff.1 hb
  rw [List.take_succ_eq_append_getElem hi, List.take_succ_eq_append_getElem hj, List.map_append, List.map_append, h, h1, h2]; simp [he]
theorem eqv_miss (ha : xs[i]? = some a) (hb : ys[i]? = some b) (he : ¬ a.v = b.v) : ¬ xs.map (·.v) = ys.map (·.v) := fun e => by
  have h1 : (xs.map (·.v))[i]? = some a.v := by rw [List.getElem?_map, ha]; rfl
  rw [e, List.getElem?_map, hb] at h1
  exact he (Option.some.inj h1).symm
theorem eqv_end (h : (xs.take i).map (·.v) = (ys.take i).map (·.v)) (h1 : xs.length ≤ i) (h2 : ys.length ≤ i) : xs.map (·.v) = ys.map (·.v) := by rwa [List.take_of_length_le h1, List.take_of_length_le h2] at h
end
theorem eqN (A B : Option Addr) (c d : Nat) (xs ys : List SnatV) (w : World) (hA : Rd w 2 cellsN A xs) (hB : Rd w 2 cellsN B ys) (hlx : xs.length ≤ 1099511627776) : Calls Tryz.prog 40 #[.slice A xs.length c, .slice B ys.length d] w fun e w' => e = .returned (.bool (decide (xs = ys))) ∧ Fr w w' [] := by
 refine enterD (n := 26) Tryz.func40 rfl rfl (Nat.le_of_ble_eq_true rfl) ?_
 intro Q0 hN hret hret'
 have hC := Cx.start w
 refine WCs (fun K1 hK2 => WCg (WLq 1 [(4, .bool false)] (WLd rfl (QXn (hK2 _ _ (WCs (fun K3 hK4 => WCs (fun K5 hK6 => WCg (WLz 5 [(10, .bool ((xs.length : Int) != (ys.length : Int)))] (WLd rfl (QXn (hK6 _ _ ?_))))))))))))
 refine WCa 10 ((xs.length : Int) != (ys.length : Int)) rfl (fun t7b => ?_) (fun t7b => ?_)
 ·
  have t7 : (xs.length : Int) ≠ (ys.length : Int) := by simpa using t7b
  refine WCt rfl (WCs (fun K8 hK9 => WCg (WLq 1 [(4, .bool false)] (WLd rfl (QXn (hK9 _ _ (WC.ret (QXr ?_))))))))
  refine (hret _ _ _ rfl ?_).1
  exact ⟨congrArg (fun b_ => Ending.returned (Value.bool b_)) (decide_eq_false (fun e_ => by subst e_; omega)).symm, hC.fr⟩
 ·
  have t7 : (xs.length : Int) = (ys.length : Int) := by simpa using t7b
  refine WCf rfl (WC.skip (QXn (hK4 _ _ (WCs (fun aF af => WCs (fun aG ag => WCg (WLz 3 [(13, I6 0), (12, I6 (xs.length : Int))] (WLd rfl (QXn (ag _ _ (WC.block ?_)))))))))))
  refine WC.loop (fun m_ E_ w_ => ∃ (i : Nat), m_ = xs.length - i ∧ E_ = [(0, .slice A xs.length c), (1, .slice B ys.length d), (12, I6 (xs.length : Int)), (13, I6 (i : Int))] ∧ Cx w [] w_ [] [] ∧ (i ≤ xs.length ∧ xs.take i = ys.take i)) ⟨_, _, ⟨0, rfl, rfl, hC, Nat.zero_le _, rfl⟩, sub_of ⟨rfl, rfl, rfl, rfl, trivial⟩⟩ (fun m17 E_ aH aI au av => ?_)
  obtain ⟨i, rfl, rfl, am, hi, hpre⟩ := av
  refine WCs (fun aJ ah => WCg (WLq 1 [(14, .bool (decide ((i : Int) < (xs.length : Int))))] (WLd rfl (QXn (ah _ _ (WCs (fun aK ai => WCa 14 (decide ((i : Int) < (xs.length : Int))) rfl (fun aj => ?_) (fun aj => ?_))))))))
  ·
   have aC : (i : Int) < (xs.length : Int) := by have q_ := of_decide_eq_true aj; omega
   refine WCt rfl (WC.skip (QXn (ai _ _ (WCs (fun aL an => WC.block (WCs (fun aM ao => ?_)))))))
   refine WCg (WLz 2 [(5, I6 (i : Int))] (WLd rfl (QXn (ao _ _ (WCs (fun aN ap => WC.drawC am [] (by kernel_rfl) (fun aO aD ae ac => WDx 2 [(0, 16, .slice A xs.length c), (1, 17, I6 (i : Int))] ac ?_)))))))
   obtain ⟨aa, ak⟩ := get_some (xs := xs) (i := i) (by omega)
   obtain ⟨b37, o39, aw, ax⟩ := hA.at_ _ _ ak
   refine WDi (NPt (NPb (NPt (NPt (NPb (NPt hN)))))) 2 A xs.length c 18 .i64 (i : Int) b37 o39 i 2 (by kernel_rfl) (by kernel_rfl) aw (by omega) (by omega) (o39 + i * 2) (by first | (simp; done) | omega) ac (WDx 2 [(4, 20, .slice B ys.length d), (5, 21, I6 (i : Int))] ac ?_)
   obtain ⟨ab, al⟩ := get_some (xs := ys) (i := i) (by omega)
   obtain ⟨b43, o45, ay, az⟩ := hB.at_ _ _ al
   refine WDi (NPt (NPb (NPt (NPt (NPb (NPt hN)))))) 6 B ys.length d 22 .i64 (i : Int) b43 o45 i 2 (by kernel_rfl) (by kernel_rfl) ay (by omega) (by omega) (o45 + i * 2) (by first | (simp; done) | omega) ac (WDm 3 79 (P0 b37 (o39 + i * 2)) (.agg #[U4 aa.dip, U4 aa.vip]) 19 (fun _ hS_ => run_rdN (l := [U4 aa.dip, U4 aa.vip]) rfl rfl (fun j u hu => by have hq_ := Fr.cell hS_ (ae.fr.cell (ax j u hu) (by simp)) (by simp); simpa [Nat.add_assoc] using hq_)) ac (WDm 7 79 (P0 b43 (o45 + i * 2)) (.agg #[U4 ab.dip, U4 ab.vip]) 23 (fun _ hS_ => run_rdN (l := [U4 ab.dip, U4 ab.vip]) rfl rfl (fun j u hu => by have hq_ := Fr.cell hS_ (ae.fr.cell (az j u hu) (by simp)) (by simp); simpa [Nat.add_assoc] using hq_)) ac ?_))
   have aA : ∀ w_, Sem.run Tryz.prog (do eqGuard .neq 79 (Operand.tmp 19) (Operand.tmp 23) (.agg #[U4 aa.dip, U4 aa.vip]) (.agg #[U4 ab.dip, U4 ab.vip]); binOp .neq 79 (.agg #[U4 aa.dip, U4 aa.vip]) (.agg #[U4 ab.dip, U4 ab.vip])) w_ = .ok (.bool (!(aa.dip == ab.dip && (aa.vip == ab.vip && true)))) w_ := fun w_ => (run_neq_S (by kernel_rfl))
   refine WD.semP (NPt (NPb (NPt (NPt (NPb (NPt hN)))))) 8 (do eqGuard .neq 79 (Operand.tmp 19) (Operand.tmp 23) (.agg #[U4 aa.dip, U4 aa.vip]) (.agg #[U4 ab.dip, U4 ab.vip]); binOp .neq 79 (.agg #[U4 aa.dip, U4 aa.vip]) (.agg #[U4 ab.dip, U4 ab.vip])) 24 (.bool (!(aa.dip == ab.dip && (aa.vip == ab.vip && true)))) (by kernel_rfl) (by kernel_rfl) (fun _ _ => aA _) ac (WD.recast (show (.bool (!(aa.dip == ab.dip && (aa.vip == ab.vip && true))) : Value) = .bool (!decide (aa = ab)) from by rw [snat_beq]) (WDd (QXn (ap _ _ (WCa 24 (!decide (aa = ab)) rfl (fun ad => ?_) (fun ad => ?_))))))
   ·
    have aE : (decide (aa = ab)) = false := by first | (simpa only [Bool.not_eq_true', Bool.not_eq_false'] using ad) | simpa using ad
    refine WCt rfl (WCs (fun aP aq => WCg (WLq 1 [(4, .bool false)] (WLd rfl (QXn (aq _ _ (WC.ret (QXk (QXr ?_)))))))))
    refine QXr (QXk (QXr ?_))
    refine (hret _ _ _ rfl ?_).1
    clear hN hret hret' aq ap ao an ai ah ag af hK6 hK4 hK2
    exact ⟨congrArg (fun b_ => Ending.returned (Value.bool b_)) (eqs_miss ak al (by assumption)).symm, ae.fr⟩
   ·
    have aE : (decide (aa = ab)) = true := by first | (simpa only [Bool.not_eq_true', Bool.not_eq_false'] using ad) | simpa using ad
    refine WCf rfl (WC.skip (QXb (QXn (an _ _ (WCg (WLq 1 [(25, I6 (IntKind.i64.wrap ((i : Int) + 1)))] (WLt (show (I6 (IntKind.i64.wrap ((i : Int) + 1)) : Value) = I6 ((i : Int) + 1) from by rw [wrap_in_i64 ((i : Int) + 1) (by omega) (by omega)]) (WLq 1 [(13, I6 ((i : Int) + 1))] ?_))))))))
    refine WLd rfl (QXn ?_)
    have aB := ae.pick [] [] rfl rfl
    refine fun a_ ha_ => au _ _ _ ?_ ⟨i + 1, rfl, rfl, aB, by omega, eqs_snoc hpre ak al ad⟩ a_ (ha_.weaken (sub_of ⟨rfl, rfl, rfl, rfl, trivial⟩))
    omega
  ·
   have aC : (xs.length : Int) ≤ (i : Int) := by have q_ := of_decide_eq_false aj; omega
   refine WCf rfl (WC.exit (QXe (QXe (QX.block_hit (QXn (af _ _ ?_))))))
   refine WCs (fun aQ ar => WCg (WLq 1 [(4, .bool true)] (WLd rfl (QXn (ar _ _ (WC.ret ?_))))))
   refine (hret _ _ _ rfl ?_).1
   clear hN hret hret' ar ai ah ag af hK6 hK4 hK2
   have hie_ : i = xs.length := by omega
   rw [List.take_of_length_le (by omega), List.take_of_length_le (by omega)] at hpre
   exact ⟨congrArg (fun b_ => Ending.returned (Value.bool b_)) (decide_eq_true hpre).symm, am.fr⟩

theorem sameAddrs (A B : Option Addr) (c d : Nat) (xs ys : List Int) (w : World) (hA : Rd w 1 (Go.Tw.encI .u32) A xs) (hB : Rd w 1 (Go.Tw.encI .u32) B ys) (hlx : xs.length ≤ 1099511627776) : Calls Tryz.prog 26 #[.slice A xs.length c, .slice B ys.length d] w fun e w' => e = .returned (.bool (decide (xs = ys))) ∧ Fr w w' [] := by
 refine enterD (n := 26) Tryz.func26 rfl rfl (Nat.le_of_ble_eq_true rfl) ?_
 intro Q0 hN hret hret'
 have hC := Cx.start w
 refine WCs (fun K1 hK2 => WCg (WLq 1 [(4, .bool false)] (WLd rfl (QXn (hK2 _ _ (WCs (fun K3 hK4 => WCs (fun K5 hK6 => WCg (WLz 5 [(10, .bool ((xs.length : Int) != (ys.length : Int)))] (WLd rfl (QXn (hK6 _ _ ?_))))))))))))
 refine WCa 10 ((xs.length : Int) != (ys.length : Int)) rfl (fun t7b => ?_) (fun t7b => ?_)
 ·
  have t7 : (xs.length : Int) ≠ (ys.length : Int) := by simpa using t7b
  refine WCt rfl (WCs (fun K8 hK9 => WCg (WLq 1 [(4, .bool false)] (WLd rfl (QXn (hK9 _ _ (WC.ret (QXr ?_))))))))
  refine (hret _ _ _ rfl ?_).1
  exact ⟨congrArg (fun b_ => Ending.returned (Value.bool b_)) (decide_eq_false (fun e_ => by subst e_; omega)).symm, hC.fr⟩
 ·
  have t7 : (xs.length : Int) = (ys.length : Int) := by simpa using t7b
  refine WCf rfl (WC.skip (QXn (hK4 _ _ (WCs (fun aD ad => WCs (fun aE ae => WCg (WLq 1 [(5, I6 0)] (WLd rfl (QXn (ae _ _ (WC.block (WC.loop (fun m_ E_ w_ => ∃ (i : Nat), m_ = xs.length - i ∧ E_ = [(0, .slice A xs.length c), (1, .slice B ys.length d), (5, I6 (i : Int))] ∧ Cx w [] w_ [] [] ∧ (i ≤ xs.length ∧ xs.take i = ys.take i)) ⟨_, _, ⟨0, rfl, rfl, hC, Nat.zero_le _, rfl⟩, sub_of ⟨rfl, rfl, rfl, trivial⟩⟩ (fun m17 E_ aF aG ar au => ?_)))))))))))))
  obtain ⟨i, rfl, rfl, am, hi, hpre⟩ := au
  refine WCs (fun aH af => WCs (fun aI ag => WCg (WLz 4 [(14, .bool (decide ((i : Int) < (xs.length : Int))))] (WLd rfl (QXn (ag _ _ (WCa 14 (decide ((i : Int) < (xs.length : Int))) rfl (fun ah => ?_) (fun ah => ?_))))))))
  ·
   have aA : (i : Int) < (xs.length : Int) := by have q_ := of_decide_eq_true ah; omega
   refine WCt rfl (WC.skip (QXn (af _ _ (WCs (fun aJ an => WC.block (WCs (fun aK ao => ?_)))))))
   refine WC.drawC am [] (by kernel_rfl) (fun aL aB ac aa => WDx 2 [(0, 17, .slice A xs.length c), (1, 18, I6 (i : Int))] aa ?_)
   obtain ⟨ai, aj⟩ := get_some (xs := xs) (i := i) (by omega)
   obtain ⟨b35, o37, av, aw⟩ := hA.at_ _ _ aj
   refine WDi (NPt (NPb (NPt (NPt (NPb (NPt hN)))))) 2 A xs.length c 19 .i64 (i : Int) b35 o37 i 1 (by kernel_rfl) (by kernel_rfl) av (by omega) (by omega) (o37 + i) (by first | (simp; done) | omega) aa (WDx 2 [(4, 21, .slice B ys.length d), (5, 22, I6 (i : Int))] aa ?_)
   obtain ⟨ak, al⟩ := get_some (xs := ys) (i := i) (by omega)
   obtain ⟨b41, o43, ax, ay⟩ := hB.at_ _ _ al
   refine WDi (NPt (NPb (NPt (NPt (NPb (NPt hN)))))) 6 B ys.length d 23 .i64 (i : Int) b41 o43 i 1 (by kernel_rfl) (by kernel_rfl) ax (by omega) (by omega) (o43 + i) (by first | (simp; done) | omega) aa (WDm 3 40 (P0 b35 (o37 + i)) (U4 ai) 20 (fun _ hS_ => run_load1 rfl (by simpa [Nat.add_assoc] using Fr.cell hS_ (ac.fr.cell (aw 0 _ rfl) (by simp)) (by simp))) aa (WDm 7 40 (P0 b41 (o43 + i)) (U4 ak) 24 (fun _ hS_ => run_load1 rfl (by simpa [Nat.add_assoc] using Fr.cell hS_ (ac.fr.cell (ay 0 _ rfl) (by simp)) (by simp))) aa (WDq 8 25 (.bool (ai != ak)) aa (WD.recast (show (.bool (ai != ak) : Value) = .bool (!decide (ai = ak)) from by rw [int_bne]) (WDd ?_)))))
   refine QXn (ao _ _ (WCa 25 (!decide (ai = ak)) rfl (fun ab => ?_) (fun ab => ?_)))
   ·
    have aC : (decide (ai = ak)) = false := by first | (simpa only [Bool.not_eq_true', Bool.not_eq_false'] using ab) | simpa using ab
    refine WCt rfl (WCs (fun aM ap => WCg (WLq 1 [(4, .bool false)] (WLd rfl (QXn (ap _ _ (WC.ret (QXk (QXr ?_)))))))))
    refine QXr (QXk (QXr ?_))
    refine (hret _ _ _ rfl ?_).1
    clear hN hret hret' ap ao an ag af ae ad hK6 hK4 hK2
    exact ⟨congrArg (fun b_ => Ending.returned (Value.bool b_)) (eqs_miss aj al (by assumption)).symm, ac.fr⟩
   ·
    have aC : (decide (ai = ak)) = true := by first | (simpa only [Bool.not_eq_true', Bool.not_eq_false'] using ab) | simpa using ab
    refine WCf rfl (WC.skip (QXb (QXn (an _ _ (WCg (WLz 2 [(16, I6 (IntKind.i64.wrap ((i : Int) + 1)))] (WLt (show (I6 (IntKind.i64.wrap ((i : Int) + 1)) : Value) = I6 ((i : Int) + 1) from by rw [wrap_in_i64 ((i : Int) + 1) (by omega) (by omega)]) ?_)))))))
    refine WLq 1 [(5, I6 ((i : Int) + 1))] (WLd rfl (QXn ?_))
    have az := ac.pick [] [] rfl rfl
    refine fun a_ ha_ => ar _ _ _ ?_ ⟨i + 1, rfl, rfl, az, by omega, eqs_snoc hpre aj al ab⟩ a_ (ha_.weaken (sub_of ⟨rfl, rfl, rfl, trivial⟩))
    omega
  ·
   have aA : (xs.length : Int) ≤ (i : Int) := by have q_ := of_decide_eq_false ah; omega
   refine WCf rfl (WC.exit (QXe (QXe (QX.block_hit (QXn (ad _ _ ?_))))))
   refine WCs (fun aN aq => WCg (WLq 1 [(4, .bool true)] (WLd rfl (QXn (aq _ _ (WC.ret ?_))))))
   refine (hret _ _ _ rfl ?_).1
   clear hN hret hret' aq ag af ae ad hK6 hK4 hK2
   have hie_ : i = xs.length := by omega
   rw [List.take_of_length_le (by omega), List.take_of_length_le (by omega)] at hpre
   exact ⟨congrArg (fun b_ => Ending.returned (Value.bool b_)) (decide_eq_true hpre).symm, am.fr⟩

theorem sameAddrs_n (A B : Option Addr) (n c n2 d : Nat) (xs ys : List Int) (w : World) (hA : Rd w 1 (Go.Tw.encI .u32) A xs) (hB : Rd w 1 (Go.Tw.encI .u32) B ys) (h1 : xs.length = n) (h2 : ys.length = n2) (hlx : n ≤ 1099511627776) : Calls Tryz.prog 26 #[.slice A n c, .slice B n2 d] w fun e w' => e = .returned (.bool (decide (xs = ys))) ∧ Fr w w' [] := by subst h1 h2; exact sameAddrs A B c d xs ys w hA hB hlx
theorem sameLs (A B : Option Addr) (c d : Nat) (xs ys : List Lease) (w : World) (hA : Rd w 4 encL A xs) (hB : Rd w 4 encL B ys) (hlx : xs.length ≤ 1099511627776) : Calls Tryz.prog 33 #[.slice A xs.length c, .slice B ys.length d] w fun e w' => e = .returned (.bool (decide (xs = ys))) ∧ Fr w w' [] := by
 refine enterD (n := 26) Tryz.func33 rfl rfl (Nat.le_of_ble_eq_true rfl) ?_
 intro Q0 hN hret hret'
 have hC := Cx.start w
 refine WCs (fun K1 hK2 => WCg (WLq 1 [(4, .bool false)] (WLd rfl (QXn (hK2 _ _ (WCs (fun K3 hK4 => WCs (fun K5 hK6 => WCg (WLz 5 [(10, .bool ((xs.length : Int) != (ys.length : Int)))] (WLd rfl (QXn (hK6 _ _ ?_))))))))))))
 refine WCa 10 ((xs.length : Int) != (ys.length : Int)) rfl (fun t7b => ?_) (fun t7b => ?_)
 ·
  have t7 : (xs.length : Int) ≠ (ys.length : Int) := by simpa using t7b
  refine WCt rfl (WCs (fun K8 hK9 => WCg (WLq 1 [(4, .bool false)] (WLd rfl (QXn (hK9 _ _ (WC.ret (QXr ?_))))))))
  refine (hret _ _ _ rfl ?_).1
  exact ⟨congrArg (fun b_ => Ending.returned (Value.bool b_)) (decide_eq_false (fun e_ => by subst e_; omega)).symm, hC.fr⟩
 ·
  have t7 : (xs.length : Int) = (ys.length : Int) := by simpa using t7b
  refine WCf rfl (WC.skip (QXn (hK4 _ _ (WCs (fun aE af => WCs (fun aF ag => WCg (WLq 1 [(5, I6 0)] (WLd rfl (QXn (ag _ _ (WC.block (WC.loop (fun m_ E_ w_ => ∃ (i : Nat), m_ = xs.length - i ∧ E_ = [(0, .slice A xs.length c), (1, .slice B ys.length d), (5, I6 (i : Int))] ∧ Cx w [] w_ [] [] ∧ (i ≤ xs.length ∧ xs.take i = ys.take i)) ⟨_, _, ⟨0, rfl, rfl, hC, Nat.zero_le _, rfl⟩, sub_of ⟨rfl, rfl, rfl, trivial⟩⟩ (fun m17 E_ aG aH ar au => ?_)))))))))))))
  obtain ⟨i, rfl, rfl, am, hi, hpre⟩ := au
  refine WCs (fun aI ah => WCs (fun aJ ai => WCg (WLz 4 [(14, .bool (decide ((i : Int) < (xs.length : Int))))] (WLd rfl (QXn (ai _ _ (WCa 14 (decide ((i : Int) < (xs.length : Int))) rfl (fun aj => ?_) (fun aj => ?_))))))))
  ·
   have aB : (i : Int) < (xs.length : Int) := by have q_ := of_decide_eq_true aj; omega
   refine WCt rfl (WC.skip (QXn (ah _ _ (WCs (fun aK an => WC.block (WCs (fun aL ao => ?_)))))))
   refine WC.drawC am [] (by kernel_rfl) (fun aM aC ae ac => WDx 2 [(0, 17, .slice A xs.length c), (1, 18, I6 (i : Int))] ac ?_)
   obtain ⟨aa, ak⟩ := get_some (xs := xs) (i := i) (by omega)
   obtain ⟨b35, o37, av, aw⟩ := hA.at_ _ _ ak
   refine WDi (NPt (NPb (NPt (NPt (NPb (NPt hN)))))) 2 A xs.length c 19 .i64 (i : Int) b35 o37 i 4 (by kernel_rfl) (by kernel_rfl) av (by omega) (by omega) (o37 + i * 4) (by first | (simp; done) | omega) ac (WDx 2 [(4, 21, .slice B ys.length d), (5, 22, I6 (i : Int))] ac ?_)
   obtain ⟨ab, al⟩ := get_some (xs := ys) (i := i) (by omega)
   obtain ⟨b41, o43, ax, ay⟩ := hB.at_ _ _ al
   refine WDi (NPt (NPb (NPt (NPt (NPb (NPt hN)))))) 6 B ys.length d 23 .i64 (i : Int) b41 o43 i 4 (by kernel_rfl) (by kernel_rfl) ax (by omega) (by omega) (o43 + i * 4) (by first | (simp; done) | omega) ac (WDm 3 50 (P0 b35 (o37 + i * 4)) (.agg #[U4 aa.vip, I6 aa.first, U4 aa.dip, I6 aa.exp]) 20 (fun _ hS_ => run_rdN (l := [U4 aa.vip, I6 aa.first, U4 aa.dip, I6 aa.exp]) rfl rfl (fun j u hu => by have hq_ := Fr.cell hS_ (ae.fr.cell (aw j u hu) (by simp)) (by simp); simpa [Nat.add_assoc] using hq_)) ac (WDm 7 50 (P0 b41 (o43 + i * 4)) (.agg #[U4 ab.vip, I6 ab.first, U4 ab.dip, I6 ab.exp]) 24 (fun _ hS_ => run_rdN (l := [U4 ab.vip, I6 ab.first, U4 ab.dip, I6 ab.exp]) rfl rfl (fun j u hu => by have hq_ := Fr.cell hS_ (ae.fr.cell (ay j u hu) (by simp)) (by simp); simpa [Nat.add_assoc] using hq_)) ac ?_))
   have az : ∀ w_, Sem.run Tryz.prog (do eqGuard .neq 50 (Operand.tmp 20) (Operand.tmp 24) (.agg #[U4 aa.vip, I6 aa.first, U4 aa.dip, I6 aa.exp]) (.agg #[U4 ab.vip, I6 ab.first, U4 ab.dip, I6 ab.exp]); binOp .neq 50 (.agg #[U4 aa.vip, I6 aa.first, U4 aa.dip, I6 aa.exp]) (.agg #[U4 ab.vip, I6 ab.first, U4 ab.dip, I6 ab.exp])) w_ = .ok (.bool (!(aa.vip == ab.vip && (aa.first == ab.first && (aa.dip == ab.dip && (aa.exp == ab.exp && true)))))) w_ := fun w_ => (run_neq_S (by kernel_rfl))
   refine WD.semP (NPt (NPb (NPt (NPt (NPb (NPt hN)))))) 8 (do eqGuard .neq 50 (Operand.tmp 20) (Operand.tmp 24) (.agg #[U4 aa.vip, I6 aa.first, U4 aa.dip, I6 aa.exp]) (.agg #[U4 ab.vip, I6 ab.first, U4 ab.dip, I6 ab.exp]); binOp .neq 50 (.agg #[U4 aa.vip, I6 aa.first, U4 aa.dip, I6 aa.exp]) (.agg #[U4 ab.vip, I6 ab.first, U4 ab.dip, I6 ab.exp])) 25 (.bool (!(aa.vip == ab.vip && (aa.first == ab.first && (aa.dip == ab.dip && (aa.exp == ab.exp && true)))))) (by kernel_rfl) (by kernel_rfl) (fun _ _ => az _) ac (WD.recast (show (.bool (!(aa.vip == ab.vip && (aa.first == ab.first && (aa.dip == ab.dip && (aa.exp == ab.exp && true))))) : Value) = .bool (!decide (aa = ab)) from by rw [lease_beq]) (WDd (QXn (ao _ _ (WCa 25 (!decide (aa = ab)) rfl (fun ad => ?_) (fun ad => ?_))))))
   ·
    have aD : (decide (aa = ab)) = false := by first | (simpa only [Bool.not_eq_true', Bool.not_eq_false'] using ad) | simpa using ad
    refine WCt rfl (WCs (fun aN ap => WCg (WLq 1 [(4, .bool false)] (WLd rfl (QXn (ap _ _ (WC.ret (QXk (QXr ?_)))))))))
    refine QXr (QXk (QXr ?_))
    refine (hret _ _ _ rfl ?_).1
    clear hN hret hret' ap ao an ai ah ag af hK6 hK4 hK2
    exact ⟨congrArg (fun b_ => Ending.returned (Value.bool b_)) (eqs_miss ak al (by assumption)).symm, ae.fr⟩
   ·
    have aD : (decide (aa = ab)) = true := by first | (simpa only [Bool.not_eq_true', Bool.not_eq_false'] using ad) | simpa using ad
    refine WCf rfl (WC.skip (QXb (QXn (an _ _ (WCg (WLz 2 [(16, I6 (IntKind.i64.wrap ((i : Int) + 1)))] (WLt (show (I6 (IntKind.i64.wrap ((i : Int) + 1)) : Value) = I6 ((i : Int) + 1) from by rw [wrap_in_i64 ((i : Int) + 1) (by omega) (by omega)]) ?_)))))))
    refine WLq 1 [(5, I6 ((i : Int) + 1))] (WLd rfl (QXn ?_))
    have aA := ae.pick [] [] rfl rfl
    refine fun a_ ha_ => ar _ _ _ ?_ ⟨i + 1, rfl, rfl, aA, by omega, eqs_snoc hpre ak al ad⟩ a_ (ha_.weaken (sub_of ⟨rfl, rfl, rfl, trivial⟩))
    omega
  ·
   have aB : (xs.length : Int) ≤ (i : Int) := by have q_ := of_decide_eq_false aj; omega
   refine WCf rfl (WC.exit (QXe (QXe (QX.block_hit (QXn (af _ _ ?_))))))
   refine WCs (fun aO aq => WCg (WLq 1 [(4, .bool true)] (WLd rfl (QXn (aq _ _ (WC.ret ?_))))))
   refine (hret _ _ _ rfl ?_).1
   clear hN hret hret' aq ai ah ag af hK6 hK4 hK2
   have hie_ : i = xs.length := by omega
   rw [List.take_of_length_le (by omega), List.take_of_length_le (by omega)] at hpre
   exact ⟨congrArg (fun b_ => Ending.returned (Value.bool b_)) (decide_eq_true hpre).symm, am.fr⟩

theorem sameLs_n (A B : Option Addr) (n c n2 d : Nat) (xs ys : List Lease) (w : World) (hA : Rd w 4 encL A xs) (hB : Rd w 4 encL B ys) (h1 : xs.length = n) (h2 : ys.length = n2) (hlx : n ≤ 1099511627776) : Calls Tryz.prog 33 #[.slice A n c, .slice B n2 d] w fun e w' => e = .returned (.bool (decide (xs = ys))) ∧ Fr w w' [] := by subst h1 h2; exact sameLs A B c d xs ys w hA hB hlx
theorem sameEnds (A B : Option Addr) (c d : Nat) (xs ys : List EndV) (w : World) (hA : Rd w 3 cellsE A xs) (hB : Rd w 3 cellsE B ys) (hlx : xs.length ≤ 1099511627776) : Calls Tryz.prog 19 #[.slice A xs.length c, .slice B ys.length d] w fun e w' => e = .returned (.bool (decide (xs = ys))) ∧ Fr w w' [] := by
 refine enterD (n := 26) Tryz.func19 rfl rfl (Nat.le_of_ble_eq_true rfl) ?_
 intro Q0 hN hret hret'
 have hC := Cx.start w
 refine WCs (fun K1 hK2 => WCg (WLq 1 [(4, .bool false)] (WLd rfl (QXn (hK2 _ _ (WCs (fun K3 hK4 => WCs (fun K5 hK6 => WCg (WLz 5 [(10, .bool ((xs.length : Int) != (ys.length : Int)))] (WLd rfl (QXn (hK6 _ _ ?_))))))))))))
 refine WCa 10 ((xs.length : Int) != (ys.length : Int)) rfl (fun t7b => ?_) (fun t7b => ?_)
 ·
  have t7 : (xs.length : Int) ≠ (ys.length : Int) := by simpa using t7b
  refine WCt rfl (WCs (fun K8 hK9 => WCg (WLq 1 [(4, .bool false)] (WLd rfl (QXn (hK9 _ _ (WC.ret (QXr ?_))))))))
  refine (hret _ _ _ rfl ?_).1
  exact ⟨congrArg (fun b_ => Ending.returned (Value.bool b_)) (decide_eq_false (fun e_ => by subst e_; omega)).symm, hC.fr⟩
 ·
  have t7 : (xs.length : Int) = (ys.length : Int) := by simpa using t7b
  refine WCf rfl (WC.skip (QXn (hK4 _ _ (WCs (fun aE af => WCs (fun aF ag => WCg (WLq 1 [(5, I6 0)] (WLd rfl (QXn (ag _ _ (WC.block (WC.loop (fun m_ E_ w_ => ∃ (i : Nat), m_ = xs.length - i ∧ E_ = [(0, .slice A xs.length c), (1, .slice B ys.length d), (5, I6 (i : Int))] ∧ Cx w [] w_ [] [] ∧ (i ≤ xs.length ∧ xs.take i = ys.take i)) ⟨_, _, ⟨0, rfl, rfl, hC, Nat.zero_le _, rfl⟩, sub_of ⟨rfl, rfl, rfl, trivial⟩⟩ (fun m17 E_ aG aH ar au => ?_)))))))))))))
  obtain ⟨i, rfl, rfl, am, hi, hpre⟩ := au
  refine WCs (fun aI ah => WCs (fun aJ ai => WCg (WLz 4 [(14, .bool (decide ((i : Int) < (xs.length : Int))))] (WLd rfl (QXn (ai _ _ (WCa 14 (decide ((i : Int) < (xs.length : Int))) rfl (fun aj => ?_) (fun aj => ?_))))))))
  ·
   have aB : (i : Int) < (xs.length : Int) := by have q_ := of_decide_eq_true aj; omega
   refine WCt rfl (WC.skip (QXn (ah _ _ (WCs (fun aK an => WC.block (WCs (fun aL ao => ?_)))))))
   refine WC.drawC am [] (by kernel_rfl) (fun aM aC ae ac => WDx 2 [(0, 17, .slice A xs.length c), (1, 18, I6 (i : Int))] ac ?_)
   obtain ⟨aa, ak⟩ := get_some (xs := xs) (i := i) (by omega)
   obtain ⟨b35, o37, av, aw⟩ := hA.at_ _ _ ak
   refine WDi (NPt (NPb (NPt (NPt (NPb (NPt hN)))))) 2 A xs.length c 19 .i64 (i : Int) b35 o37 i 3 (by kernel_rfl) (by kernel_rfl) av (by omega) (by omega) (o37 + i * 3) (by first | (simp; done) | omega) ac (WDx 2 [(4, 21, .slice B ys.length d), (5, 22, I6 (i : Int))] ac ?_)
   obtain ⟨ab, al⟩ := get_some (xs := ys) (i := i) (by omega)
   obtain ⟨b41, o43, ax, ay⟩ := hB.at_ _ _ al
   refine WDi (NPt (NPb (NPt (NPt (NPb (NPt hN)))))) 6 B ys.length d 23 .i64 (i : Int) b41 o43 i 3 (by kernel_rfl) (by kernel_rfl) ax (by omega) (by omega) (o43 + i * 3) (by first | (simp; done) | omega) ac (WDm 3 47 (P0 b35 (o37 + i * 3)) (.agg #[U4 aa.dip, I6 aa.port, I6 aa.weight]) 20 (fun _ hS_ => run_rdN (l := [U4 aa.dip, I6 aa.port, I6 aa.weight]) rfl rfl (fun j u hu => by have hq_ := Fr.cell hS_ (ae.fr.cell (aw j u hu) (by simp)) (by simp); simpa [Nat.add_assoc] using hq_)) ac (WDm 7 47 (P0 b41 (o43 + i * 3)) (.agg #[U4 ab.dip, I6 ab.port, I6 ab.weight]) 24 (fun _ hS_ => run_rdN (l := [U4 ab.dip, I6 ab.port, I6 ab.weight]) rfl rfl (fun j u hu => by have hq_ := Fr.cell hS_ (ae.fr.cell (ay j u hu) (by simp)) (by simp); simpa [Nat.add_assoc] using hq_)) ac ?_))
   have az : ∀ w_, Sem.run Tryz.prog (do eqGuard .neq 47 (Operand.tmp 20) (Operand.tmp 24) (.agg #[U4 aa.dip, I6 aa.port, I6 aa.weight]) (.agg #[U4 ab.dip, I6 ab.port, I6 ab.weight]); binOp .neq 47 (.agg #[U4 aa.dip, I6 aa.port, I6 aa.weight]) (.agg #[U4 ab.dip, I6 ab.port, I6 ab.weight])) w_ = .ok (.bool (!(aa.dip == ab.dip && (aa.port == ab.port && (aa.weight == ab.weight && true))))) w_ := fun w_ => (run_neq_S (by kernel_rfl))
   refine WD.semP (NPt (NPb (NPt (NPt (NPb (NPt hN)))))) 8 (do eqGuard .neq 47 (Operand.tmp 20) (Operand.tmp 24) (.agg #[U4 aa.dip, I6 aa.port, I6 aa.weight]) (.agg #[U4 ab.dip, I6 ab.port, I6 ab.weight]); binOp .neq 47 (.agg #[U4 aa.dip, I6 aa.port, I6 aa.weight]) (.agg #[U4 ab.dip, I6 ab.port, I6 ab.weight])) 25 (.bool (!(aa.dip == ab.dip && (aa.port == ab.port && (aa.weight == ab.weight && true))))) (by kernel_rfl) (by kernel_rfl) (fun _ _ => az _) ac (WD.recast (show (.bool (!(aa.dip == ab.dip && (aa.port == ab.port && (aa.weight == ab.weight && true)))) : Value) = .bool (!decide (aa = ab)) from by rw [endV_beq]) (WDd (QXn (ao _ _ (WCa 25 (!decide (aa = ab)) rfl (fun ad => ?_) (fun ad => ?_))))))
   ·
    have aD : (decide (aa = ab)) = false := by first | (simpa only [Bool.not_eq_true', Bool.not_eq_false'] using ad) | simpa using ad
    refine WCt rfl (WCs (fun aN ap => WCg (WLq 1 [(4, .bool false)] (WLd rfl (QXn (ap _ _ (WC.ret (QXk (QXr ?_)))))))))
    refine QXr (QXk (QXr ?_))
    refine (hret _ _ _ rfl ?_).1
    clear hN hret hret' ap ao an ai ah ag af hK6 hK4 hK2
    exact ⟨congrArg (fun b_ => Ending.returned (Value.bool b_)) (eqs_miss ak al (by assumption)).symm, ae.fr⟩
   ·
    have aD : (decide (aa = ab)) = true := by first | (simpa only [Bool.not_eq_true', Bool.not_eq_false'] using ad) | simpa using ad
    refine WCf rfl (WC.skip (QXb (QXn (an _ _ (WCg (WLz 2 [(16, I6 (IntKind.i64.wrap ((i : Int) + 1)))] (WLt (show (I6 (IntKind.i64.wrap ((i : Int) + 1)) : Value) = I6 ((i : Int) + 1) from by rw [wrap_in_i64 ((i : Int) + 1) (by omega) (by omega)]) ?_)))))))
    refine WLq 1 [(5, I6 ((i : Int) + 1))] (WLd rfl (QXn ?_))
    have aA := ae.pick [] [] rfl rfl
    refine fun a_ ha_ => ar _ _ _ ?_ ⟨i + 1, rfl, rfl, aA, by omega, eqs_snoc hpre ak al ad⟩ a_ (ha_.weaken (sub_of ⟨rfl, rfl, rfl, trivial⟩))
    omega
  ·
   have aB : (xs.length : Int) ≤ (i : Int) := by have q_ := of_decide_eq_false aj; omega
   refine WCf rfl (WC.exit (QXe (QXe (QX.block_hit (QXn (af _ _ ?_))))))
   refine WCs (fun aO aq => WCg (WLq 1 [(4, .bool true)] (WLd rfl (QXn (aq _ _ (WC.ret ?_))))))
   refine (hret _ _ _ rfl ?_).1
   clear hN hret hret' aq ai ah ag af hK6 hK4 hK2
   have hie_ : i = xs.length := by omega
   rw [List.take_of_length_le (by omega), List.take_of_length_le (by omega)] at hpre
   exact ⟨congrArg (fun b_ => Ending.returned (Value.bool b_)) (decide_eq_true hpre).symm, am.fr⟩

theorem sameEnds_n (A B : Option Addr) (n c n2 d : Nat) (xs ys : List EndV) (w : World) (hA : Rd w 3 cellsE A xs) (hB : Rd w 3 cellsE B ys) (h1 : xs.length = n) (h2 : ys.length = n2) (hlx : n ≤ 1099511627776) : Calls Tryz.prog 19 #[.slice A n c, .slice B n2 d] w fun e w' => e = .returned (.bool (decide (xs = ys))) ∧ Fr w w' [] := by subst h1 h2; exact sameEnds A B c d xs ys w hA hB hlx
theorem named_ct (a b : Svc) (w : World) : Calls Tryz.prog 34 #[.agg #[U4 a.v.vip, I6 a.v.proto, I6 a.v.port, .slice a.a a.v.ends.length a.c], .agg #[U4 b.v.vip, I6 b.v.proto, I6 b.v.port, .slice b.a b.v.ends.length b.c]] w fun e w' => e = .returned (.bool (decide (kS a = kS b))) ∧ Fr w w' [] := by
 refine enterD (n := 24) Tryz.func34 rfl rfl (Nat.le_of_ble_eq_true rfl) ?_
 intro Q0 hN hret hret'
 have hC := Cx.start w
 refine WCs (fun K1 hK2 => WCg (WLb hC (.cells #[U4 a.v.vip, I6 a.v.proto, I6 a.v.port, .slice a.a a.v.ends.length a.c] 43) 2 (fun g3 w4 hb7 hF5 hC6 => WLb hC6 (.cells #[U4 b.v.vip, I6 b.v.proto, I6 b.v.port, .slice b.a b.v.ends.length b.c] 43) 3 (fun g8 w9 ae af aa => WLq 1 [(4, .bool false)] (WLd rfl (QXn (hK2 _ _ (WCs (fun ai ad => ?_)))))))))
 refine WCg (WLq 1 [(5, P0 g3 0)] (WLo 40 (P0 g3 0) (U4 a.v.vip) 6 (run_ld (aa.get 0 rfl) rfl) (WLq 1 [(7, P0 g8 0)] (WLo 40 (P0 g8 0) (U4 b.v.vip) 8 (run_ld (aa.get 1 rfl) rfl) (WLz 2 [(10, .bool (a.v.vip == b.v.vip))] (WLa 10 (a.v.vip == b.v.vip) rfl (fun ab => ?_) (fun ab => ?_)))))))
 ·
  have ag : a.v.vip = b.v.vip := by simpa using ab
  refine WLq 1 [(11, P0 g3 1)] (WLo 3 (P0 g3 1) (I6 a.v.proto) 12 (run_ld (aa.get 0 rfl) rfl) (WLq 1 [(13, P0 g8 1)] (WLo 3 (P0 g8 1) (I6 b.v.proto) 14 (run_ld (aa.get 1 rfl) rfl) (WLz 3 [(17, .bool (a.v.proto == b.v.proto))] (WLa 17 (a.v.proto == b.v.proto) rfl (fun ac => ?_) (fun ac => ?_))))))
  ·
   have ah : a.v.proto = b.v.proto := by simpa using ac
   refine WLq 1 [(18, P0 g3 2)] (WLo 3 (P0 g3 2) (I6 a.v.port) 19 (run_ld (aa.get 0 rfl) rfl) (WLq 1 [(20, P0 g8 2)] (WLo 3 (P0 g8 2) (I6 b.v.port) 21 (run_ld (aa.get 1 rfl) rfl) (WLz 3 [(4, .bool (a.v.port == b.v.port))] (WLd rfl (QXn (ad _ _ (WC.ret ?_))))))))
   refine (hret _ _ _ rfl ?_).1
   exact ⟨congrArg (fun b_ => Ending.returned (Value.bool b_)) (show (a.v.port == b.v.port) = _ from by rw [Bool.eq_iff_iff, decide_eq_true_eq, k3_eq, beq_iff_eq]; simp only [kS, kV]; exact ⟨fun h_ => ⟨by simpa using ab, by simpa using ac, h_⟩, fun h_ => h_.2.2⟩), aa.fr⟩
  ·
   have ah : ¬ (a.v.proto = b.v.proto) := by simpa using ac
   refine WLz 7 [(4, .bool false)] (WLd rfl (QXn (ad _ _ (WC.ret ?_))))
   refine (hret _ _ _ rfl ?_).1
   exact ⟨congrArg (fun b_ => Ending.returned (Value.bool b_)) (decide_eq_false (fun e_ => by have q_ := k3_eq.1 e_; simp only [kS, kV] at q_; exact absurd q_.2.1 (by simpa using ac))).symm, aa.fr⟩
 ·
  have ag : ¬ (a.v.vip = b.v.vip) := by simpa using ab
  refine WLz 14 [(4, .bool false)] (WLd rfl (QXn (ad _ _ (WC.ret ?_))))
  refine (hret _ _ _ rfl ?_).1
  exact ⟨congrArg (fun b_ => Ending.returned (Value.bool b_)) (decide_eq_false (fun e_ => by have q_ := k3_eq.1 e_; simp only [kS, kV] at q_; exact absurd q_.1 (by simpa using ab))).symm, aa.fr⟩

set_option maxHeartbeats 2000000 in
theorem RSame_ct (ce1 cn1 : Int) (AS1 : Option Addr) (cS1 : Nat) (xs1 : List Svc) (AN1 : Option Addr) (cN1 : Nat) (ns1 : List SnatV) (AK1 : Option Addr) (cK1 : Nat) (ks1 : List Int) (AL1 : Option Addr) (cL1 : Nat) (ls1 : List Lease) (ce2 cn2 : Int) (AS2 : Option Addr) (cS2 : Nat) (xs2 : List Svc) (AN2 : Option Addr) (cN2 : Nat) (ns2 : List SnatV) (AK2 : Option Addr) (cK2 : Nat) (ks2 : List Int) (AL2 : Option Addr) (cL2 : Nat) (ls2 : List Lease) (w : World) (hqS1 : Rd w 4 cellsS AS1 xs1) (hat1 : ∀ s ∈ xs1, svcAt w s) (hqN1 : Rd w 2 cellsN AN1 ns1) (hqK1 : Rd w 1 (Go.Tw.encI .u32) AK1 ks1) (hqL1 : Rd w 4 encL AL1 ls1) (hlS1 : xs1.length ≤ 1099511627776) (hlN1 : ns1.length ≤ 1099511627776) (hlK1 : ks1.length ≤ 1099511627776) (hlL1 : ls1.length ≤ 1099511627776) (hqS2 : Rd w 4 cellsS AS2 xs2) (hat2 : ∀ s ∈ xs2, svcAt w s) (hqN2 : Rd w 2 cellsN AN2 ns2) (hqK2 : Rd w 1 (Go.Tw.encI .u32) AK2 ks2) (hqL2 : Rd w 4 encL AL2 ls2) (hlS2 : xs2.length ≤ 1099511627776) (hlN2 : ns2.length ≤ 1099511627776) (hlK2 : ks2.length ≤ 1099511627776) (hlL2 : ls2.length ≤ 1099511627776) : Calls Tryz.prog 11 #[.agg #[I6 ce1, I6 cn1, .slice AS1 xs1.length cS1, .slice AN1 ns1.length cN1, .slice AK1 ks1.length cK1, .slice AL1 ls1.length cL1], .agg #[I6 ce2, I6 cn2, .slice AS2 xs2.length cS2, .slice AN2 ns2.length cN2, .slice AK2 ks2.length cK2, .slice AL2 ls2.length cL2]] w fun e w' => e = .returned (.bool (decide ((⟨ce1, cn1, xs1.map (·.v), ns1, ks1, ls1⟩ : CfgV) = (⟨ce2, cn2, xs2.map (·.v), ns2, ks2, ls2⟩ : CfgV)))) ∧ Fr w w' [] := by
 refine enterD (n := 106) Tryz.func11 rfl rfl (Nat.le_of_ble_eq_true rfl) ?_
 intro Q0 hN hret hret'
 have hC := Cx.start w
 refine WCs (fun K1 hK2 => WCg (WLb hC (.cells #[I6 ce1, I6 cn1, .slice AS1 xs1.length cS1, .slice AN1 ns1.length cN1, .slice AK1 ks1.length cK1, .slice AL1 ls1.length cL1] 31) 2 (fun g3 w4 hb7 hF5 hC6 => WLb hC6 (.cells #[I6 ce2, I6 cn2, .slice AS2 xs2.length cS2, .slice AN2 ns2.length cN2, .slice AK2 ks2.length cK2, .slice AL2 ls2.length cL2] 31) 3 (fun g8 w9 bB bC ad => WLq 1 [(4, .bool false)] (WLd rfl (QXn (hK2 _ _ (WCs (fun bW aM => ?_)))))))))
 refine WCs (fun bX al => WCg (WLq 1 [(7, P0 g3 0)] (WLo 3 (P0 g3 0) (I6 ce1) 8 (run_ld (ad.get 0 rfl) rfl) (WLq 1 [(9, P0 g8 0)] (WLo 3 (P0 g8 0) (I6 ce2) 10 (run_ld (ad.get 1 rfl) rfl) (WLz 2 [(12, .bool (ce1 != ce2))] ?_))))))
 refine WLa 12 (ce1 != ce2) rfl (fun ar => ?_) (fun ar => ?_)
 ·
  have bD : ce1 ≠ ce2 := by simpa using ar
  refine WLz 40 [(52, .bool true)] (WLd rfl (QXn (al _ _ (WCt rfl (WCs (fun bY bf => WCg (WLq 1 [(4, .bool false)] (WLd rfl (QXn (bf _ _ (WC.ret (QXr ?_))))))))))))
  refine (hret _ _ _ rfl ?_).1
  exact ⟨congrArg (fun b_ => Ending.returned (Value.bool b_)) (decide_eq_false (fun e_ => by exact absurd (cfg_ext.1 e_).1 (by simpa using ar))).symm, ad.fr⟩
 ·
  have bD : ce1 = ce2 := by simpa using ar
  refine WLq 1 [(13, P0 g3 1)] (WLo 3 (P0 g3 1) (I6 cn1) 14 (run_ld (ad.get 0 rfl) rfl) (WLq 1 [(15, P0 g8 1)] (WLo 3 (P0 g8 1) (I6 cn2) 16 (run_ld (ad.get 1 rfl) rfl) (WLz 3 [(19, .bool (cn1 != cn2))] (WLa 19 (cn1 != cn2) rfl (fun au => ?_) (fun au => ?_))))))
  ·
   have bE : cn1 ≠ cn2 := by simpa using au
   refine WLz 33 [(52, .bool true)] (WLd rfl (QXn (al _ _ (WCt rfl (WCs (fun bZ bg => WCg (WLq 1 [(4, .bool false)] (WLd rfl (QXn (bg _ _ (WC.ret (QXr ?_))))))))))))
   refine (hret _ _ _ rfl ?_).1
   exact ⟨congrArg (fun b_ => Ending.returned (Value.bool b_)) (decide_eq_false (fun e_ => by exact absurd (cfg_ext.1 e_).2.1 (by simpa using au))).symm, ad.fr⟩
  ·
   have bE : cn1 = cn2 := by simpa using au
   refine WLq 1 [(20, P0 g3 2)] (WLo 26 (P0 g3 2) (.slice AS1 xs1.length cS1) 21 (run_ld (ad.get 0 rfl) rfl) (WLq 2 [(23, P0 g8 2), (22, I6 (xs1.length : Int))] (WLo 26 (P0 g8 2) (.slice AS2 xs2.length cS2) 24 (run_ld (ad.get 1 rfl) rfl) (WLz 4 [(28, .bool ((xs1.length : Int) != (xs2.length : Int)))] (WLa 28 ((xs1.length : Int) != (xs2.length : Int)) rfl (fun aN => ?_) (fun aN => ?_))))))
   ·
    have bF : (xs1.length : Int) ≠ (xs2.length : Int) := by simpa using aN
    refine WLz 24 [(52, .bool true)] (WLd rfl (QXn (al _ _ (WCt rfl (WCs (fun b0 bh => WCg (WLq 1 [(4, .bool false)] (WLd rfl (QXn (bh _ _ (WC.ret (QXr ?_))))))))))))
    refine (hret _ _ _ rfl ?_).1
    exact ⟨congrArg (fun b_ => Ending.returned (Value.bool b_)) (decide_eq_false (fun e_ => by have q_ := congrArg List.length (cfg_ext.1 e_).2.2.1; simp only [List.length_map] at q_; omega)).symm, ad.fr⟩
   ·
    have bF : (xs1.length : Int) = (xs2.length : Int) := by simpa using aN
    refine WLq 1 [(29, P0 g3 3)] (WLo 27 (P0 g3 3) (.slice AN1 ns1.length cN1) 30 (run_ld (ad.get 0 rfl) rfl) (WLq 2 [(32, P0 g8 3), (31, I6 (ns1.length : Int))] (WLo 27 (P0 g8 3) (.slice AN2 ns2.length cN2) 33 (run_ld (ad.get 1 rfl) rfl) (WLz 4 [(37, .bool ((ns1.length : Int) != (ns2.length : Int)))] (WLa 37 ((ns1.length : Int) != (ns2.length : Int)) rfl (fun aO => ?_) (fun aO => ?_))))))
    ·
     have bG : (ns1.length : Int) ≠ (ns2.length : Int) := by simpa using aO
     refine WLz 15 [(52, .bool true)] (WLd rfl (QXn (al _ _ (WCt rfl (WCs (fun b1 bi => WCg (WLq 1 [(4, .bool false)] (WLd rfl (QXn (bi _ _ (WC.ret (QXr ?_))))))))))))
     refine (hret _ _ _ rfl ?_).1
     exact ⟨congrArg (fun b_ => Ending.returned (Value.bool b_)) (decide_eq_false (fun e_ => by have q_ := congrArg List.length (cfg_ext.1 e_).2.2.2.1; dsimp only at q_; omega)).symm, ad.fr⟩
    ·
     have bG : (ns1.length : Int) = (ns2.length : Int) := by simpa using aO
     refine WLq 1 [(38, P0 g3 4)] (WLo 28 (P0 g3 4) (.slice AK1 ks1.length cK1) 39 (run_ld (ad.get 0 rfl) rfl) (WLq 1 [(40, P0 g8 4)] (WLo 28 (P0 g8 4) (.slice AK2 ks2.length cK2) 41 (run_ld (ad.get 1 rfl) rfl) (WLk (sameAddrs_n AK1 AK2 ks1.length cK1 ks2.length cK2 ks1 ks2 w9 (Rd.fr hqK1 ad.fr) (Rd.fr hqK2 ad.fr) (by first | rfl | assumption | (simp; done) | (simp; omega)) (by first | rfl | assumption | (simp; done) | (simp; omega)) (by first | omega | assumption)) ?_))))
     rintro _ bH ⟨rfl, bj⟩
     refine ⟨_, rfl, ?_⟩
     have ao := ad.call bj
     refine WLz 3 [(45, .bool (!(decide (ks1 = ks2))))] (WLa 45 (!(decide (ks1 = ks2))) rfl (fun ap => ?_) (fun ap => ?_))
     ·
      have bx : (decide (ks1 = ks2)) = false := by first | (simpa only [Bool.not_eq_true', Bool.not_eq_false'] using ap) | simpa using ap
      refine WLz 7 [(52, .bool true)] (WLd rfl (QXn (al _ _ (WCt rfl (WCs (fun b2 bk => WCg (WLq 1 [(4, .bool false)] (WLd rfl (QXn (bk _ _ (WC.ret (QXr ?_))))))))))))
      refine (hret _ _ _ rfl ?_).1
      exact ⟨congrArg (fun b_ => Ending.returned (Value.bool b_)) (decide_eq_false (fun e_ => by exact absurd (cfg_ext.1 e_).2.2.2.2.1 (by simpa using bx))).symm, ao.fr⟩
     ·
      have bx : (decide (ks1 = ks2)) = true := by first | (simpa only [Bool.not_eq_true', Bool.not_eq_false'] using ap) | simpa using ap
      refine WLq 1 [(46, P0 g3 5)] (WLo 29 (P0 g3 5) (.slice AL1 ls1.length cL1) 47 (run_ld (ao.get 0 rfl) rfl) (WLq 1 [(48, P0 g8 5)] (WLo 29 (P0 g8 5) (.slice AL2 ls2.length cL2) 49 (run_ld (ao.get 1 rfl) rfl) (WLk (sameLs_n AL1 AL2 ls1.length cL1 ls2.length cL2 ls1 ls2 bH (Rd.fr hqL1 ao.fr) (Rd.fr hqL2 ao.fr) (by first | rfl | assumption | (simp; done) | (simp; omega)) (by first | rfl | assumption | (simp; done) | (simp; omega)) (by first | omega | assumption)) ?_))))
      rintro _ b3 ⟨rfl, bl⟩
      refine ⟨_, rfl, ?_⟩
      have aW := ao.call bl
      refine WLz 2 [(52, .bool (!(decide (ls1 = ls2))))] (WLd rfl (QXn (al _ _ (WCa 52 (!(decide (ls1 = ls2))) rfl (fun aq => ?_) (fun aq => ?_)))))
      ·
       have bz : (decide (ls1 = ls2)) = false := by first | (simpa only [Bool.not_eq_true', Bool.not_eq_false'] using aq) | simpa using aq
       refine WCt rfl (WCs (fun b4 bm => WCg (WLq 1 [(4, .bool false)] (WLd rfl (QXn (bm _ _ (WC.ret (QXr ?_))))))))
       refine (hret _ _ _ rfl ?_).1
       exact ⟨congrArg (fun b_ => Ending.returned (Value.bool b_)) (decide_eq_false (fun e_ => by exact absurd (cfg_ext.1 e_).2.2.2.2.2 (by simpa using bz))).symm, aW.fr⟩
      ·
       have bz : (decide (ls1 = ls2)) = true := by first | (simpa only [Bool.not_eq_true', Bool.not_eq_false'] using aq) | simpa using aq
       refine WCf rfl (WC.skip (QXn (aM _ _ (WCs (fun b5 aP => WCs (fun b6 aQ => WCg (WLq 1 [(5, I6 0)] (WLd rfl (QXn (aQ _ _ (WC.block ?_)))))))))))
       have hq1_ : ce1 = ce2 := by simpa using ar
       have hq2_ : cn1 = cn2 := by simpa using au
       have hq3_ : xs1.length = xs2.length := by omega
       have hq4_ : ns1.length = ns2.length := by omega
       have hq5_ : ks1 = ks2 := by simpa using ap
       have hq6_ : ls1 = ls2 := by simpa using aq
       refine WC.loop (fun m_ E_ w_ => ∃ (i : Nat), m_ = xs1.length - i ∧ E_ = [(2, P0 g3 0), (3, P0 g8 0), (5, I6 (i : Int))] ∧ Cx w [] w_ [(g3, .cells #[I6 ce1, I6 cn1, .slice AS1 xs1.length cS1, .slice AN1 ns1.length cN1, .slice AK1 ks1.length cK1, .slice AL1 ls1.length cL1] 31), (g8, .cells #[I6 ce2, I6 cn2, .slice AS2 xs2.length cS2, .slice AN2 ns2.length cN2, .slice AK2 ks2.length cK2, .slice AL2 ls2.length cL2] 31)] [] ∧ (i ≤ xs1.length ∧ (xs1.take i).map (·.v) = (xs2.take i).map (·.v))) ⟨_, _, ⟨0, rfl, rfl, aW, Nat.zero_le _, rfl⟩, sub_of ⟨rfl, rfl, rfl, trivial⟩⟩ (fun m48 E_ b7 b8 bn bo => ?_)
       obtain ⟨i, rfl, rfl, aR, hi, hpre⟩ := bo
       refine WCs (fun b9 aS => WCs (fun ca aT => WCg (WLq 2 [(54, P0 g3 2), (53, I6 (i : Int))] (WLo 26 (P0 g3 2) (.slice AS1 xs1.length cS1) 55 (run_ld (aR.get 0 rfl) rfl) (WLz 2 [(57, .bool (decide ((i : Int) < (xs1.length : Int))))] (WLd rfl (QXn (aT _ _ (WCa 57 (decide ((i : Int) < (xs1.length : Int))) rfl (fun aU => ?_) (fun aU => ?_))))))))))
       ·
        have bI : (i : Int) < (xs1.length : Int) := by have q_ := of_decide_eq_true aU; omega
        refine WCt rfl (WC.skip (QXn (aS _ _ (WCs (fun cb bp => WC.block (WCs (fun cc aX => ?_)))))))
        refine WC.drawC aR [] (by kernel_rfl) (fun bJ bK ak ah => WDx 4 [(0, 60, P0 g3 2), (2, 62, I6 (i : Int)), (5, 65, P0 g8 2), (7, 67, I6 (i : Int))] ah (WDm 1 26 (P0 g3 2) (.slice AS1 xs1.length cS1) 61 (fun _ hS_ => run_ld (Fr.has hS_ (ak.get 0 rfl) (by simp)) rfl) ah ?_))
        obtain ⟨af, av⟩ := get_some (xs := xs1) (i := i) (by omega)
        obtain ⟨b66, o68, aY, aZ⟩ := hqS1.at_ _ _ av
        have am := hat1 _ (List.mem_of_getElem? av)
        have bd := am.lim
        refine WDi (NPt (NPb (NPt (NPt (NPb (NPt hN)))))) 3 AS1 xs1.length cS1 63 .i64 (i : Int) b66 o68 i 4 (by kernel_rfl) (by kernel_rfl) aY (by omega) (by omega) (o68 + i * 4) (by first | (simp; done) | omega) ah (WDm 4 43 (P0 b66 (o68 + i * 4)) (.agg #[U4 af.v.vip, I6 af.v.proto, I6 af.v.port, .slice af.a af.v.ends.length af.c]) 64 (fun _ hS_ => run_rdN (l := [U4 af.v.vip, I6 af.v.proto, I6 af.v.port, .slice af.a af.v.ends.length af.c]) rfl rfl (fun j u hu => by have hq_ := Fr.cell hS_ (ak.fr.cell (aZ j u hu) (by simp)) (by simp); simpa [Nat.add_assoc] using hq_)) ah (WDm 6 26 (P0 g8 2) (.slice AS2 xs2.length cS2) 66 (fun _ hS_ => run_ld (Fr.has hS_ (ak.get 1 rfl) (by simp)) rfl) ah ?_))
        obtain ⟨ag, aw⟩ := get_some (xs := xs2) (i := i) (by omega)
        obtain ⟨b72, o74, a0, a1⟩ := hqS2.at_ _ _ aw
        have an := hat2 _ (List.mem_of_getElem? aw)
        have be := an.lim
        refine WDi (NPt (NPb (NPt (NPt (NPb (NPt hN)))))) 8 AS2 xs2.length cS2 68 .i64 (i : Int) b72 o74 i 4 (by kernel_rfl) (by kernel_rfl) a0 (by omega) (by omega) (o74 + i * 4) (by first | (simp; done) | omega) ah (WDm 9 43 (P0 b72 (o74 + i * 4)) (.agg #[U4 ag.v.vip, I6 ag.v.proto, I6 ag.v.port, .slice ag.a ag.v.ends.length ag.c]) 69 (fun _ hS_ => run_rdN (l := [U4 ag.v.vip, I6 ag.v.proto, I6 ag.v.port, .slice ag.a ag.v.ends.length ag.c]) rfl rfl (fun j u hu => by have hq_ := Fr.cell hS_ (ak.fr.cell (a1 j u hu) (by simp)) (by simp); simpa [Nat.add_assoc] using hq_)) ah (WDc 10 (named_ct af ag bJ) ?_))
        rintro _ bL ⟨rfl, a2⟩
        have aa := ah.trans a2 (by simp)
        refine ⟨_, rfl, aa, ?_⟩
        have aH := ak.call a2
        refine WDx 2 [(11, 71, .bool (!(decide (kS af = kS ag)))), (12, 72, .bool (!(decide (kS af = kS ag))))] aa (WDa 72 (!(decide (kS af = kS ag))) rfl (fun ax => ?_) (fun ax => ?_))
        ·
         have bq : (decide (kS af = kS ag)) = false := by first | (simpa only [Bool.not_eq_true', Bool.not_eq_false'] using ax) | simpa using ax
         refine WDx 15 [(13, 73, undef), (14, 74, undef), (15, 75, undef), (16, 76, undef), (17, 77, undef), (18, 78, undef), (19, 79, undef), (20, 80, undef), (21, 81, undef), (22, 82, undef), (23, 83, undef), (24, 84, undef), (25, 85, undef), (26, 86, undef), (27, 87, .bool true)] aa (WDd (QXn (aX _ _ (WCt rfl (WCs (fun cd br => WCg (WLq 1 [(4, .bool false)] (WLd rfl (QXn (br _ _ ?_))))))))))
         refine WC.ret (QXk (QXr (QXr (QXk (QXr ?_)))))
         refine (hret _ _ _ rfl ?_).1
         exact ⟨congrArg (fun b_ => Ending.returned (Value.bool b_)) (decide_eq_false (fun e_ => eqv_miss av aw (fun q_ => absurd (show kS af = kS ag from by unfold kS; rw [q_]) (by simpa using bq)) (cfg_ext.1 e_).2.2.1)).symm, aH.fr⟩
        ·
         have bq : (decide (kS af = kS ag)) = true := by first | (simpa only [Bool.not_eq_true', Bool.not_eq_false'] using ax) | simpa using ax
         refine WDx 4 [(13, 73, P0 g3 2), (15, 75, I6 (i : Int)), (19, 79, P0 g8 2), (21, 81, I6 (i : Int))] aa (WDm 14 26 (P0 g3 2) (.slice AS1 xs1.length cS1) 74 (fun _ hS_ => run_ld (Fr.has hS_ (ak.get 0 rfl) (by simp)) rfl) aa (WDi (NPt (NPb (NPt (NPt (NPb (NPt hN)))))) 16 AS1 xs1.length cS1 76 .i64 (i : Int) b66 o68 i 4 (by kernel_rfl) (by kernel_rfl) aY (by omega) (by omega) (o68 + i * 4) (by first | (simp; done) | omega) aa (WDq 17 77 (P0 b66 (o68 + i * 4 + 3)) aa (WDm 18 41 (P0 b66 (o68 + i * 4 + 3)) (.slice af.a af.v.ends.length af.c) 78 (fun _ hS_ => run_load1 rfl (by simpa [Nat.add_assoc] using Fr.cell hS_ (ak.fr.cell (aZ 3 _ rfl) (by simp)) (by simp))) aa (WDm 20 26 (P0 g8 2) (.slice AS2 xs2.length cS2) 80 (fun _ hS_ => run_ld (Fr.has hS_ (ak.get 1 rfl) (by simp)) rfl) aa ?_)))))
         refine WDi (NPt (NPb (NPt (NPt (NPb (NPt hN)))))) 22 AS2 xs2.length cS2 82 .i64 (i : Int) b72 o74 i 4 (by kernel_rfl) (by kernel_rfl) a0 (by omega) (by omega) (o74 + i * 4) (by first | (simp; done) | omega) aa (WDq 23 83 (P0 b72 (o74 + i * 4 + 3)) aa (WDm 24 41 (P0 b72 (o74 + i * 4 + 3)) (.slice ag.a ag.v.ends.length ag.c) 84 (fun _ hS_ => run_load1 rfl (by simpa [Nat.add_assoc] using Fr.cell hS_ (ak.fr.cell (a1 3 _ rfl) (by simp)) (by simp))) aa (WDc 25 (sameEnds_n af.a ag.a af.v.ends.length af.c ag.v.ends.length ag.c af.v.ends ag.v.ends bL (Rd.fr am.rd aH.fr) (Rd.fr an.rd aH.fr) rfl rfl (by first | omega | assumption)) ?_)))
         rintro _ ce ⟨rfl, a3⟩
         have aV := aa.trans a3 (by simp)
         refine ⟨_, rfl, aV, ?_⟩
         have a4 := aH.call a3
         refine WDx 2 [(26, 86, .bool (!(decide (af.v.ends = ag.v.ends)))), (27, 87, .bool (!(decide (af.v.ends = ag.v.ends))))] aV (WDd (QXn (aX _ _ (WCa 87 (!(decide (af.v.ends = ag.v.ends))) rfl (fun ay => ?_) (fun ay => ?_)))))
         ·
          have bs : (decide (af.v.ends = ag.v.ends)) = false := by first | (simpa only [Bool.not_eq_true', Bool.not_eq_false'] using ay) | simpa using ay
          refine WCt rfl (WCs (fun cf bt => WCg (WLq 1 [(4, .bool false)] (WLd rfl (QXn (bt _ _ (WC.ret (QXk (QXr ?_)))))))))
          refine QXr (QXk (QXr ?_))
          refine (hret _ _ _ rfl ?_).1
          exact ⟨congrArg (fun b_ => Ending.returned (Value.bool b_)) (decide_eq_false (fun e_ => eqv_miss av aw (fun q_ => absurd (congrArg SvcV.ends q_) (by simpa using bs)) (cfg_ext.1 e_).2.2.1)).symm, a4.fr⟩
         ·
          have bs : (decide (af.v.ends = ag.v.ends)) = true := by first | (simpa only [Bool.not_eq_true', Bool.not_eq_false'] using ay) | simpa using ay
          refine WCf rfl (WC.skip (QXb (QXn (bp _ _ (WCg (WLz 2 [(59, I6 (IntKind.i64.wrap ((i : Int) + 1)))] (WLt (show (I6 (IntKind.i64.wrap ((i : Int) + 1)) : Value) = I6 ((i : Int) + 1) from by rw [wrap_in_i64 ((i : Int) + 1) (by omega) (by omega)]) ?_)))))))
          refine WLq 1 [(5, I6 ((i : Int) + 1))] (WLd rfl (QXn ?_))
          have bu := a4.pick [0, 1] [] rfl rfl
          refine fun a_ ha_ => bn _ _ _ ?_ ⟨i + 1, rfl, rfl, bu, by omega, eqv_snoc hpre av aw (svc_ext.2 ⟨k3_eq.1 (by simpa using bq), by simpa using bs⟩)⟩ a_ (ha_.weaken (sub_of ⟨rfl, rfl, rfl, trivial⟩))
          omega
       ·
        have bI : (xs1.length : Int) ≤ (i : Int) := by have q_ := of_decide_eq_false aU; omega
        refine WCf rfl (WC.exit (QXe (QXe (QX.block_hit (QXn (aP _ _ ?_))))))
        refine WCs (fun cg az => WCs (fun bM aA => WCg (WLq 1 [(6, I6 0)] (WLd rfl (QXn (aA _ _ (WC.block ?_)))))))
        have hsv_ := eqv_end hpre (by omega) (by omega)
        refine WC.loop (fun m_ E_ w_ => ∃ (j : Nat), m_ = ns1.length - j ∧ E_ = [(2, P0 g3 0), (3, P0 g8 0), (6, I6 (j : Int))] ∧ Cx w [] w_ [(g3, .cells #[I6 ce1, I6 cn1, .slice AS1 xs1.length cS1, .slice AN1 ns1.length cN1, .slice AK1 ks1.length cK1, .slice AL1 ls1.length cL1] 31), (g8, .cells #[I6 ce2, I6 cn2, .slice AS2 xs2.length cS2, .slice AN2 ns2.length cN2, .slice AK2 ks2.length cK2, .slice AL2 ls2.length cL2] 31)] [] ∧ (j ≤ ns1.length ∧ ns1.take j = ns2.take j)) ⟨_, _, ⟨0, rfl, rfl, aR, Nat.zero_le _, rfl⟩, sub_of ⟨rfl, rfl, rfl, trivial⟩⟩ (fun m106 E_ bN bO a5 a6 => ?_)
        obtain ⟨j, rfl, rfl, aB, hj, hpr2⟩ := a6
        refine WCs (fun bP aC => WCs (fun bQ aD => WCg (WLq 2 [(89, P0 g3 3), (88, I6 (j : Int))] (WLo 27 (P0 g3 3) (.slice AN1 ns1.length cN1) 90 (run_ld (aB.get 0 rfl) rfl) (WLz 2 [(92, .bool (decide ((j : Int) < (ns1.length : Int))))] (WLd rfl (QXn (aD _ _ (WCa 92 (decide ((j : Int) < (ns1.length : Int))) rfl (fun aE => ?_) (fun aE => ?_))))))))))
        ·
         have bv : (j : Int) < (ns1.length : Int) := by have q_ := of_decide_eq_true aE; omega
         refine WCt rfl (WC.skip (QXn (aC _ _ (WCs (fun bR aI => WC.block (WCs (fun bS aJ => ?_)))))))
         refine WC.drawC aB [] (by kernel_rfl) (fun bT bA ai ae => WDx 4 [(0, 95, P0 g3 3), (2, 97, I6 (j : Int)), (5, 100, P0 g8 3), (7, 102, I6 (j : Int))] ae (WDm 1 27 (P0 g3 3) (.slice AN1 ns1.length cN1) 96 (fun _ hS_ => run_ld (Fr.has hS_ (ai.get 0 rfl) (by simp)) rfl) ae ?_))
         obtain ⟨ab, aF⟩ := get_some (xs := ns1) (i := j) (by omega)
         obtain ⟨b124, o126, a7, a8⟩ := hqN1.at_ _ _ aF
         refine WDi (NPt (NPb (NPt (NPt (NPb (NPt hN)))))) 3 AN1 ns1.length cN1 98 .i64 (j : Int) b124 o126 j 2 (by kernel_rfl) (by kernel_rfl) a7 (by omega) (by omega) (o126 + j * 2) (by first | (simp; done) | omega) ae (WDm 4 79 (P0 b124 (o126 + j * 2)) (.agg #[U4 ab.dip, U4 ab.vip]) 99 (fun _ hS_ => run_rdN (l := [U4 ab.dip, U4 ab.vip]) rfl rfl (fun j u hu => by have hq_ := Fr.cell hS_ (ai.fr.cell (a8 j u hu) (by simp)) (by simp); simpa [Nat.add_assoc] using hq_)) ae (WDm 6 27 (P0 g8 3) (.slice AN2 ns2.length cN2) 101 (fun _ hS_ => run_ld (Fr.has hS_ (ai.get 1 rfl) (by simp)) rfl) ae ?_))
         obtain ⟨ac, aG⟩ := get_some (xs := ns2) (i := j) (by omega)
         obtain ⟨b130, o132, a9, ba⟩ := hqN2.at_ _ _ aG
         refine WDi (NPt (NPb (NPt (NPt (NPb (NPt hN)))))) 8 AN2 ns2.length cN2 103 .i64 (j : Int) b130 o132 j 2 (by kernel_rfl) (by kernel_rfl) a9 (by omega) (by omega) (o132 + j * 2) (by first | (simp; done) | omega) ae (WDm 9 79 (P0 b130 (o132 + j * 2)) (.agg #[U4 ac.dip, U4 ac.vip]) 104 (fun _ hS_ => run_rdN (l := [U4 ac.dip, U4 ac.vip]) rfl rfl (fun j u hu => by have hq_ := Fr.cell hS_ (ai.fr.cell (ba j u hu) (by simp)) (by simp); simpa [Nat.add_assoc] using hq_)) ae ?_)
         have bb : ∀ w_, Sem.run Tryz.prog (do eqGuard .neq 79 (Operand.tmp 99) (Operand.tmp 104) (.agg #[U4 ab.dip, U4 ab.vip]) (.agg #[U4 ac.dip, U4 ac.vip]); binOp .neq 79 (.agg #[U4 ab.dip, U4 ab.vip]) (.agg #[U4 ac.dip, U4 ac.vip])) w_ = .ok (.bool (!(ab.dip == ac.dip && (ab.vip == ac.vip && true)))) w_ := fun w_ => (run_neq_S (by kernel_rfl))
         refine WD.semP (NPt (NPb (NPt (NPt (NPb (NPt hN)))))) 10 (do eqGuard .neq 79 (Operand.tmp 99) (Operand.tmp 104) (.agg #[U4 ab.dip, U4 ab.vip]) (.agg #[U4 ac.dip, U4 ac.vip]); binOp .neq 79 (.agg #[U4 ab.dip, U4 ab.vip]) (.agg #[U4 ac.dip, U4 ac.vip])) 105 (.bool (!(ab.dip == ac.dip && (ab.vip == ac.vip && true)))) (by kernel_rfl) (by kernel_rfl) (fun _ _ => bb _) ae (WD.recast (show (.bool (!(ab.dip == ac.dip && (ab.vip == ac.vip && true))) : Value) = .bool (!decide (ab = ac)) from by rw [snat_beq]) (WDd (QXn (aJ _ _ (WCa 105 (!decide (ab = ac)) rfl (fun aj => ?_) (fun aj => ?_))))))
         ·
          have bw : (decide (ab = ac)) = false := by first | (simpa only [Bool.not_eq_true', Bool.not_eq_false'] using aj) | simpa using aj
          refine WCt rfl (WCs (fun bU aK => WCg (WLq 1 [(4, .bool false)] (WLd rfl (QXn (aK _ _ (WC.ret (QXk (QXr ?_)))))))))
          refine QXr (QXk (QXr ?_))
          refine (hret _ _ _ rfl ?_).1
          clear hN hret hret' aK aJ aI aD aC aA az aT aS aQ aP al aM hK2
          exact ⟨congrArg (fun b_ => Ending.returned (Value.bool b_)) (decide_eq_false (fun e_ => of_decide_eq_false (eqs_miss aF aG (by assumption)) (cfg_ext.1 e_).2.2.2.1)).symm, ai.fr⟩
         ·
          have bw : (decide (ab = ac)) = true := by first | (simpa only [Bool.not_eq_true', Bool.not_eq_false'] using aj) | simpa using aj
          refine WCf rfl (WC.skip (QXb (QXn (aI _ _ (WCg (WLz 2 [(94, I6 (IntKind.i64.wrap ((j : Int) + 1)))] (WLt (show (I6 (IntKind.i64.wrap ((j : Int) + 1)) : Value) = I6 ((j : Int) + 1) from by rw [wrap_in_i64 ((j : Int) + 1) (by omega) (by omega)]) ?_)))))))
          refine WLq 1 [(6, I6 ((j : Int) + 1))] (WLd rfl (QXn ?_))
          have bc := ai.pick [0, 1] [] rfl rfl
          refine fun a_ ha_ => a5 _ _ _ ?_ ⟨j + 1, rfl, rfl, bc, by omega, eqs_snoc hpr2 aF aG aj⟩ a_ (ha_.weaken (sub_of ⟨rfl, rfl, rfl, trivial⟩))
          omega
        ·
         have bv : (ns1.length : Int) ≤ (j : Int) := by have q_ := of_decide_eq_false aE; omega
         refine WCf rfl (WC.exit (QXe (QXe (QX.block_hit (QXn (az _ _ ?_))))))
         refine WCs (fun bV aL => WCg (WLq 1 [(4, .bool true)] (WLd rfl (QXn (aL _ _ (WC.ret ?_))))))
         refine (hret _ _ _ rfl ?_).1
         clear hN hret hret' aL aD aC aA az aT aS aQ aP al aM hK2
         have hnn_ : ns1 = ns2 := by rwa [List.take_of_length_le (by omega), List.take_of_length_le (by omega)] at hpr2
         exact ⟨congrArg (fun b_ => Ending.returned (Value.bool b_)) (decide_eq_true (cfg_ext.2 ⟨hq1_, hq2_, hsv_, hnn_, hq5_, hq6_⟩)).symm, aB.fr⟩

end Go.Proofs.YtfligklljkcbfaaGreatDoor
namespace Go.Proofs.YtfligklljkcbfaaGreatDoor
set_option linter.unusedSimpArgs false
set_option linter.unusedVariables false
set_option linter.unusedSectionVars false
open Go Go.RowKit Go.Tw
set_option linter.unusedVariables false
set_option maxRecDepth 20000
theorem svcsIn.snoc {w : World} {R : List Nat} {xs : List Svc} {x : Svc} (h : svcsIn w R xs) (hx : svcAt w x) : svcsIn w (R ++ svcB x) (xs ++ [x]) := by
  refine ⟨fun y hy => ?_, fun y hy z hz => ?_⟩
  · rcases List.mem_append.1 hy with h1 | h1
    · exact h.at_ y h1
    · rw [List.mem_singleton] at h1; subst h1; exact hx
  · rcases List.mem_append.1 hy with h1 | h1
    · exact List.mem_append.2 (.inl (h.sub y h1 z hz))
    · rw [List.mem_singleton] at h1; subst h1; exact List.mem_append.2 (.inr hz)
theorem vals_snocS {xs ys : List Svc} {i : Nat} {e : Svc} {A : Option Addr} {c : Nat} (h : ys.map (·.v) = (xs.take i).map (·.v)) (he : xs[i]? = some e) : (ys ++ [(⟨e.v, A, c⟩ : Svc)]).map (·.v) = (xs.take (i + 1)).map (·.v) := by
  obtain ⟨hi, rfl⟩ := List.getElem?_eq_some_iff.1 he
  rw [List.take_succ_eq_append_getElem hi, List.map_append, List.map_append, h]; rfl
theorem copy_pack {w w0 : World} {M : List (Nat × Obj)} {V : CfgV} {AS : Option Addr} {cS : Nat} {xs : List Svc} {AN : Option Addr} {cN : Nat} {AK : Option Addr} {cK : Nat} {AL : Option Addr} {cL : Nat} {R : List Nat}
    (h : Cx w0 [] w M [blk (.slice AS xs.length cS), R, blk (.slice AN V.snats.length cN), blk (.slice AK V.sick.length cK), blk (.slice AL V.leases.length cL)])
    (hS : w.ownsRow 0 43 4 (.slice AS xs.length cS) xs.length (xs.flatMap cellsS)) (hN : w.ownsRow 0 79 2 (.slice AN V.snats.length cN) V.snats.length (V.snats.flatMap cellsN))
    (hK : w.ownsRow 0 40 1 (.slice AK V.sick.length cK) V.sick.length (V.sick.flatMap (Go.Tw.encI .u32))) (hL : w.ownsRow 0 50 4 (.slice AL V.leases.length cL) V.leases.length (V.leases.flatMap encL))
    (hi : svcsIn w R xs) (hv : xs.map (·.v) = V.svcs) :
    ∃ G : List Nat, FoldR w G V [] AS cS xs AN cN AK cK AL cL none 0 ∧ ∀ x ∈ G, w0.heap.size ≤ x := by
  refine ⟨blk (.slice AS xs.length cS) ++ (R ++ (blk (.slice AN V.snats.length cN) ++ (blk (.slice AK V.sick.length cK) ++ blk (.slice AL V.leases.length cL)))), ⟨hS, hN, hK, hL, own_nil _ _ _ _, ⟨hi.at_, fun s hs x hx => ?_⟩, hv, fun x hx => ?_, fun x hx => ?_, fun x hx => ?_, fun x hx => ?_, fun x hx => (nomatch hx), fun x hx => ?_⟩, fun x hx => ?_⟩
  · have := hi.sub s hs x hx; simp only [List.mem_append]; exact .inr (.inl this)
  · simp only [List.mem_append]; exact .inl hx
  · simp only [List.mem_append]; exact .inr (.inr (.inl hx))
  · simp only [List.mem_append]; exact .inr (.inr (.inr (.inl hx)))
  · simp only [List.mem_append]; exact .inr (.inr (.inr (.inr hx)))
  · simp only [List.mem_append] at hx
    rcases hx with hx | hx | hx | hx | hx
    · exact h.bound _ (by simp) x hx
    · exact h.bound R (by simp) x hx
    · exact h.bound _ (by simp) x hx
    · exact h.bound _ (by simp) x hx
    · exact h.bound _ (by simp) x hx
  · simp only [List.mem_append] at hx
    have key : ∀ F ∈ [blk (.slice AS xs.length cS), R, blk (.slice AN V.snats.length cN), blk (.slice AK V.sick.length cK), blk (.slice AL V.leases.length cL)], x ∈ F → w0.heap.size ≤ x := fun F hF hxF => (h.ownF F hF x hxF).resolve_left (fun q => nomatch q)
    rcases hx with hx | hx | hx | hx | hx
    · exact key _ (by simp) hx
    · exact key R (by simp) hx
    · exact key _ (by simp) hx
    · exact key _ (by simp) hx
    · exact key _ (by simp) hx
set_option maxHeartbeats 2000000 in
theorem Copy16_ct (ce cn : Int) (AS : Option Addr) (cS : Nat) (xs : List Svc) (AN : Option Addr) (cN : Nat) (ns : List SnatV) (AK : Option Addr) (cK : Nat) (ks : List Int) (AL : Option Addr) (cL : Nat) (ls : List Lease) (w : World) (hqS : Rd w 4 cellsS AS xs) (hat : ∀ s ∈ xs, svcAt w s) (hqN : Rd w 2 cellsN AN ns) (hqK : Rd w 1 (Go.Tw.encI .u32) AK ks) (hqL : Rd w 4 encL AL ls) (hlS : xs.length ≤ 1099511627776) (hlN : ns.length ≤ 1099511627776) (hlK : ks.length ≤ 1099511627776) (hlL : ls.length ≤ 1099511627776) : Calls Tryz.prog 16 #[.agg #[I6 ce, I6 cn, .slice AS xs.length cS, .slice AN ns.length cN, .slice AK ks.length cK, .slice AL ls.length cL]] w fun e w' => ∃ (AS2 : Option Addr) (cS2 : Nat) (xs2 : List Svc) (AN2 : Option Addr) (cN2 : Nat) (AK2 : Option Addr) (cK2 : Nat) (AL2 : Option Addr) (cL2 : Nat) (G : List Nat), e = .returned (.agg #[I6 ce, I6 cn, .slice AS2 xs2.length cS2, .slice AN2 ns.length cN2, .slice AK2 ks.length cK2, .slice AL2 ls.length cL2]) ∧ Fr w w' [] ∧ FoldR w' G (⟨ce, cn, xs.map (·.v), ns, ks, ls⟩ : CfgV) [] AS2 cS2 xs2 AN2 cN2 AK2 cK2 AL2 cL2 none 0 ∧ ∀ x ∈ G, w.heap.size ≤ x := by
 refine enterD (n := 46) Tryz.func16 rfl rfl (Nat.le_of_ble_eq_true rfl) ?_
 intro Q0 hN hret hret'
 have hC := Cx.start w
 refine WCs (fun K1 hK2 => WCg (WLb hC (.cells #[I6 ce, I6 cn, .slice AS xs.length cS, .slice AN ns.length cN, .slice AK ks.length cK, .slice AL ls.length cL] 31) 1 (fun g3 w4 hb7 hF5 hC6 => WLb hC6 (.cells #[I6 0, I6 0, .slice none 0 0, .slice none 0 0, .slice none 0 0, .slice none 0 0] 31) 2 (fun g8 w9 cQ cR a8 => WLd rfl (QXn (hK2 _ _ (WCs (fun de a9 => ?_))))))))
 refine WCg (WLq 1 [(6, P0 g3 2)] (WLo 26 (P0 g3 2) (.slice AS xs.length cS) 7 (run_ld (a8.get 0 rfl) rfl) (WLq 1 [(3, .slice AS xs.length cS)] (WLd rfl (QXn (a9 _ _ (WCs (fun df ba => WCg (WLq 1 [(8, P0 g3 2)] (WLv (c' := #[I6 ce, I6 cn, .slice none 0 0, .slice AN ns.length cN, .slice AK ks.length cK, .slice AL ls.length cL]) a8 0 26 g3 2 (.slice none 0 0) (fun dg cT b7 => ?_)))))))))))
 refine WLd rfl (QXn (ba _ _ (WCs (fun dh bb => WCs (fun di bc => WCg (WLq 1 [(4, I6 0)] (WLd rfl (QXn (bc _ _ (WC.block ?_))))))))))
 have b8 := b7.addNil.addNil
 refine WC.loop (fun m_ E_ w_ => ∃ (i : Nat) (A5 : Option Addr) (n5 c5 : Nat) (xs5 : List Svc) (R5 : List Nat), m_ = xs.length - i ∧ E_ = [(1, P0 g3 0), (2, P0 g8 0), (3, .slice AS xs.length cS), (4, I6 (i : Int))] ∧ Cx w [] w_ [(g3, .cells #[I6 ce, I6 cn, .slice A5 n5 c5, .slice AN ns.length cN, .slice AK ks.length cK, .slice AL ls.length cL] 31), (g8, .cells #[I6 0, I6 0, .slice none 0 0, .slice none 0 0, .slice none 0 0, .slice none 0 0] 31)] [blk (.slice A5 n5 c5), R5] ∧ World.ownsRow w_ 0 43 4 (.slice A5 n5 c5) n5 (xs5.flatMap cellsS) ∧ svcsIn w_ R5 xs5 ∧ (i ≤ xs.length ∧ xs5.map (·.v) = (xs.take i).map (·.v))) ⟨_, _, ⟨0, none, 0, 0, [], (blk (.slice none 0 0)), rfl, rfl, b8, own_nil _ _ _ _, svcsIn.nil _ _, Nat.zero_le _, rfl⟩, sub_of ⟨rfl, rfl, rfl, rfl, trivial⟩⟩ (fun m29 E_ dj dk b9 ca => ?_)
 obtain ⟨i, A5, n5, c5, xs5, R5, rfl, rfl, aW, hns5, hin5, hi, hv5⟩ := ca
 have hnx_ := own_count cellsS_len (by decide) hns5
 have hxl_ : xs5.length = i := by have q_ := congrArg List.length hv5; simpa [Nat.min_eq_left hi] using q_
 refine WCs (fun dl bd => WCs (fun dm be => WCg (WLz 4 [(12, .bool (decide ((i : Int) < (xs.length : Int))))] (WLd rfl (QXn (be _ _ (WCa 12 (decide ((i : Int) < (xs.length : Int))) rfl (fun aX => ?_) (fun aX => ?_))))))))
 ·
  have cU : (i : Int) < (xs.length : Int) := by have q_ := of_decide_eq_true aX; omega
  refine WCt rfl (WC.skip (QXn (bd _ _ (WCs (fun dn cb => WC.block (WCs (fun dp cc => ?_)))))))
  refine WCg (WLq 2 [(16, I6 (i : Int)), (15, .slice AS xs.length cS)] ?_)
  obtain ⟨aa, aY⟩ := get_some (xs := xs) (i := i) (by omega)
  obtain ⟨b43, o45, cd, cf⟩ := hqS.at_ _ _ aY
  have ab := hat _ (List.mem_of_getElem? aY)
  have bY := ab.lim
  refine WLi AS xs.length cS 17 .i64 (i : Int) b43 o45 i 4 (by kernel_rfl) cd (by omega) (by omega) (o45 + i * 4) (by first | (simp; done) | omega) (WLo 43 (P0 b43 (o45 + i * 4)) (.agg #[U4 aa.v.vip, I6 aa.v.proto, I6 aa.v.port, .slice aa.a aa.v.ends.length aa.c]) 18 (run_rdN (l := [U4 aa.v.vip, I6 aa.v.proto, I6 aa.v.port, .slice aa.a aa.v.ends.length aa.c]) rfl rfl (fun j u hu => by have hq_ := aW.fr.cell (cf j u hu) (by simp); simpa [Nat.add_assoc] using hq_)) (WLb aW (.cells #[U4 0, I6 0, I6 0, .slice none 0 0] 43) 5 (fun a7 dq cV bf aZ => ?_)))
  have cg := own_fr hns5 bf (by simp)
  have ch := svcsIn.fr hin5 bf (by simp)
  refine WLv (c' := #[U4 aa.v.vip, I6 aa.v.proto, I6 aa.v.port, .slice aa.a aa.v.ends.length aa.c]) aZ 2 43 a7 0 (.agg #[U4 aa.v.vip, I6 aa.v.proto, I6 aa.v.port, .slice aa.a aa.v.ends.length aa.c]) (fun dr bg ci => ?_)
  have cj := own_fr cg bg (aZ.apartM 0 2 rfl rfl)
  have ck := svcsIn.fr ch bg (aZ.apartM 1 2 rfl rfl)
  refine WLd rfl (QXn (cc _ _ (WCs (fun ds cl => WCg (WL.newM ci (fun b => .slice (some ⟨b, 0, none⟩) 0 0) (.cells #[] 47) 19 (fun _ => by kernel_rfl) (fun cm cW cX bh a0 => ?_))))))
  have co := own_fr cj bh (by simp)
  have cp := svcsIn.fr ck bh (by simp)
  refine WLq 1 [(20, P0 a7 3)] (WLo 41 (P0 a7 3) (.slice aa.a aa.v.ends.length aa.c) 21 (run_ld (a0.get 2 rfl) rfl) ?_)
  have cq : World.ownsRow cW 0 47 3 (.slice (some ⟨cm, 0, none⟩) 0 0) 0 [] := own_of_blk (Nat.zero_le _) (a0.get 3 rfl) (Nat.le_refl _) (Nat.zero_le _) (by simp) rfl
  have aG := a0.toF 3 rfl
  obtain ⟨dt, du, cr, cs, bi, ct, cu, cv⟩ := app_run Tryz.prog aG 2 (v := .slice (some ⟨cm, 0, none⟩) 0 0) rfl 41 41 47 3 24 0 aa.v.ends.length aa.c aa.a rfl cq (aa.v.ends.flatMap cellsE) (flat_len_n cellsE_len (by first | rfl | assumption | (simp; done) | (simp; omega))) (Rd.src_n (Rd.fr ab.rd aG.fr) cellsE_len (by decide) (by first | rfl | assumption | (simp; done) | (simp; omega))) (flat_one cellsE_one _) (by simp only [maxLen]; omega) (by omega)
  have bj := own_app (enc := cellsE) (ys := []) (zs := aa.v.ends) cs
  obtain ⟨ay, aq, rfl, cI⟩ := own_form bj
  refine WLS 22 cr ?_
  have cw := own_fr co bi (aG.disj 0 2 rfl rfl (by decide))
  have cx := svcsIn.fr cp bi (aG.disj 1 2 rfl rfl (by decide))
  have bk := bj
  rw [show (0 + aa.v.ends.length : Nat) = aa.v.ends.length from by omega, show ([] : List EndV) ++ aa.v.ends = aa.v.ends from rfl] at bk
  refine WLt (show (.slice ay (0 + aa.v.ends.length) aq : Value) = .slice ay aa.v.ends.length aq from by rw [Nat.zero_add]) ?_
  have az := ct
  rw [blk_n ay (0 + aa.v.ends.length) aq aa.v.ends.length aq] at az
  refine WLq 1 [(23, P0 a7 3)] (WLv (c' := #[U4 aa.v.vip, I6 aa.v.proto, I6 aa.v.port, .slice ay aa.v.ends.length aq]) az 2 41 a7 3 (.slice ay aa.v.ends.length aq) (fun dv cy a1 => WLd rfl (QXn (cl _ _ (WCg (WLq 1 [(24, P0 g3 2)] (WLo 26 (P0 g3 2) (.slice A5 n5 c5) 25 (run_ld (a1.get 0 rfl) rfl) (WLo 43 (P0 a7 0) (.agg #[U4 aa.v.vip, I6 aa.v.proto, I6 aa.v.port, .slice ay aa.v.ends.length aq]) 26 (run_ld (a1.get 2 rfl) rfl) ?_))))))))
  refine WL.newM a1 (fun b => .slice (some ⟨b, 0, none⟩) 1 1) (.cells #[U4 aa.v.vip, I6 aa.v.proto, I6 aa.v.port, .slice ay aa.v.ends.length aq] 43) 27 (fun _ => by kernel_rfl) (fun cJ dw cY cz aH => ?_)
  have a2 := cy.trans cz (by simp)
  obtain ⟨dx, dy, bl, bm, aK, ah, bZ, b0⟩ := app_run Tryz.prog aH 0 (v := .slice A5 n5 c5) rfl 26 26 43 4 48 n5 1 1 (some ⟨cJ, 0, none⟩) rfl (own_fr cw a2 (az.apartM 0 2 rfl rfl)) [U4 aa.v.vip, I6 aa.v.proto, I6 aa.v.port, .slice ay aa.v.ends.length aq] rfl (srcOk.blk 1 (aH.get 3 rfl)) rfl (by simp only [maxLen]; omega) (by omega)
  have aL := own_snoc (enc := cellsS) (ys := xs5) (⟨aa.v, ay, aq⟩ : Svc) bm
  obtain ⟨aI, aJ, rfl, cA⟩ := own_form aL
  refine WLS 28 bl ?_
  have bn := svcsIn.fr (svcsIn.fr cx a2 (az.apartM 1 2 rfl rfl)) aK (aH.disj 1 0 rfl rfl (by decide))
  have aM := own_fr (own_fr bk a2 (az.apartM 2 2 rfl rfl)) aK (aH.disj 2 0 rfl rfl (by decide))
  refine WLq 1 [(29, P0 g3 2)] (WLv (c' := #[I6 ce, I6 cn, .slice aI (n5 + 1) aJ, .slice AN ns.length cN, .slice AK ks.length cK, .slice AL ls.length cL]) ah 0 26 g3 2 (.slice aI (n5 + 1) aJ) (fun cB ar bo => WLd rfl (QXb (QXn (cb _ _ (WCg ?_))))))
  refine WLz 2 [(14, I6 (IntKind.i64.wrap ((i : Int) + 1)))] (WLt (show (I6 (IntKind.i64.wrap ((i : Int) + 1)) : Value) = I6 ((i : Int) + 1) from by rw [wrap_in_i64 ((i : Int) + 1) (by omega) (by omega)]) (WLq 1 [(4, I6 ((i : Int) + 1))] (WLd rfl (QXn ?_))))
  have bp := Cx_join bo 1 2 rfl rfl (by decide)
  have a3 : svcAt cB (⟨aa.v, ay, aq⟩ : Svc) := ⟨own_rd (own_fr aM ar (ah.apartM 2 0 rfl rfl)) cellsE_len (by decide), ab.wfe, ab.vip, ab.proto, ab.port, ab.lim, own_le (own_fr aM ar (ah.apartM 2 0 rfl rfl))⟩
  have bq := bp.pick [0, 1] [0, 1] rfl rfl
  refine fun a_ ha_ => b9 _ _ _ ?_ ⟨i + 1, aI, n5 + 1, aJ, (xs5 ++ [(⟨aa.v, ay, aq⟩ : Svc)]), (R5 ++ svcB (⟨aa.v, ay, aq⟩ : Svc)), rfl, rfl, bq, (own_fr aL ar (ah.apartM 0 0 rfl rfl)), ((svcsIn.fr bn ar (ah.apartM 1 0 rfl rfl)).snoc a3), by omega, vals_snocS hv5 aY⟩ a_ (ha_.weaken (sub_of ⟨rfl, rfl, rfl, rfl, trivial⟩))
  omega
 ·
  have cU : (xs.length : Int) ≤ (i : Int) := by have q_ := of_decide_eq_false aX; omega
  refine WCf rfl (WC.exit (QXe (QXe (QX.block_hit (QXn (bb _ _ ?_))))))
  refine WCs (fun cZ aN => WCg (WL.newM aW (fun b => .slice (some ⟨b, 0, none⟩) 0 0) (.cells #[] 79) 30 (fun _ => by kernel_rfl) (fun a4 cC cM aO aA => ?_)))
  have br := own_fr hns5 aO (by simp)
  have bs := svcsIn.fr hin5 aO (by simp)
  refine WLq 1 [(31, P0 g3 3)] (WLo 27 (P0 g3 3) (.slice AN ns.length cN) 32 (run_ld (aA.get 0 rfl) rfl) ?_)
  have bt : World.ownsRow cC 0 79 2 (.slice (some ⟨a4, 0, none⟩) 0 0) 0 [] := own_of_blk (Nat.zero_le _) (aA.get 2 rfl) (Nat.le_refl _) (Nat.zero_le _) (by simp) rfl
  have au := aA.toF 2 rfl
  obtain ⟨c0, c1, bu, bv, aP, av, b1, b2⟩ := app_run Tryz.prog au 2 (v := .slice (some ⟨a4, 0, none⟩) 0 0) rfl 27 27 79 2 8 0 ns.length cN AN rfl bt (ns.flatMap cellsN) (flat_len_n cellsN_len (by first | rfl | assumption | (simp; done) | (simp; omega))) (Rd.src_n (Rd.fr hqN au.fr) cellsN_len (by decide) (by first | rfl | assumption | (simp; done) | (simp; omega))) (flat_one cellsN_one _) (by simp only [maxLen]; omega) (by omega)
  have aQ := own_app (enc := cellsN) (ys := []) (zs := ns) bv
  obtain ⟨af, ag, rfl, cD⟩ := own_form aQ
  refine WLS 33 bu ?_
  have bw := own_fr br aP (au.disj 0 2 rfl rfl (by decide))
  have bx := svcsIn.fr bs aP (au.disj 1 2 rfl rfl (by decide))
  refine WLq 1 [(34, P0 g3 3)] (WLv (c' := #[I6 ce, I6 cn, .slice A5 n5 c5, .slice af (0 + ns.length) ag, .slice AK ks.length cK, .slice AL ls.length cL]) av 0 27 g3 3 (.slice af (0 + ns.length) ag) (fun c2 bz bA => WLd rfl (QXn (aN _ _ (WCs (fun c3 aR => WCg (WL.newM bA (fun b => .slice (some ⟨b, 0, none⟩) 0 0) (.cells #[] 40) 35 (fun _ => by kernel_rfl) (fun a5 cE cO bB aB => ?_))))))))
  have aC := bz.trans bB (by simp)
  refine WLq 1 [(36, P0 g3 4)] (WLo 28 (P0 g3 4) (.slice AK ks.length cK) 37 (run_ld (aB.get 0 rfl) rfl) ?_)
  have bC : World.ownsRow cE 0 40 1 (.slice (some ⟨a5, 0, none⟩) 0 0) 0 [] := own_of_blk (Nat.zero_le _) (aB.get 2 rfl) (Nat.le_refl _) (Nat.zero_le _) (by simp) rfl
  have ai := aB.toF 2 rfl
  obtain ⟨c4, c6, bD, bE, aD, aj, b3, b4⟩ := app_run Tryz.prog ai 3 (v := .slice (some ⟨a5, 0, none⟩) 0 0) rfl 28 28 40 1 4 0 ks.length cK AK rfl bC (ks.flatMap (Go.Tw.encI .u32)) (flat_len_n (Go.Tw.encI_len _) (by first | rfl | assumption | (simp; done) | (simp; omega))) (Rd.src_n (Rd.fr hqK ai.fr) (Go.Tw.encI_len _) (by decide) (by first | rfl | assumption | (simp; done) | (simp; omega))) (flat_one (Go.Tw.encI_one _) _) (by simp only [maxLen]; omega) (by omega)
  have aS := own_app (enc := (Go.Tw.encI .u32)) (ys := []) (zs := ks) bE
  obtain ⟨ak, al, rfl, cF⟩ := own_form aS
  refine WLS 38 bD ?_
  have bF := own_fr (own_fr bw aC (av.apartM 0 0 rfl rfl)) aD (ai.disj 0 3 rfl rfl (by decide))
  have bG := svcsIn.fr (svcsIn.fr bx aC (av.apartM 1 0 rfl rfl)) aD (ai.disj 1 3 rfl rfl (by decide))
  have bH := own_fr (own_fr aQ aC (av.apartM 2 0 rfl rfl)) aD (ai.disj 2 3 rfl rfl (by decide))
  refine WLq 1 [(39, P0 g3 4)] (WLv (c' := #[I6 ce, I6 cn, .slice A5 n5 c5, .slice af (0 + ns.length) ag, .slice ak (0 + ks.length) al, .slice AL ls.length cL]) aj 0 28 g3 4 (.slice ak (0 + ks.length) al) (fun c7 bI bJ => WLd rfl (QXn (aR _ _ (WCs (fun c8 aT => WCg (WL.newM bJ (fun b => .slice (some ⟨b, 0, none⟩) 0 0) (.cells #[] 50) 40 (fun _ => by kernel_rfl) (fun a6 cG cP bK aE => ?_))))))))
  have aw := bI.trans bK (by simp)
  refine WLq 1 [(41, P0 g3 5)] (WLo 29 (P0 g3 5) (.slice AL ls.length cL) 42 (run_ld (aE.get 0 rfl) rfl) ?_)
  have bL : World.ownsRow cG 0 50 4 (.slice (some ⟨a6, 0, none⟩) 0 0) 0 [] := own_of_blk (Nat.zero_le _) (aE.get 2 rfl) (Nat.le_refl _) (Nat.zero_le _) (by simp) rfl
  have ad := aE.toF 2 rfl
  obtain ⟨c9, da, bM, bN, ax, ae, b5, b6⟩ := app_run Tryz.prog ad 4 (v := .slice (some ⟨a6, 0, none⟩) 0 0) rfl 29 29 50 4 32 0 ls.length cL AL rfl bL (ls.flatMap encL) (flat_len_n encL_len (by first | rfl | assumption | (simp; done) | (simp; omega))) (Rd.src_n (Rd.fr hqL ad.fr) encL_len (by decide) (by first | rfl | assumption | (simp; done) | (simp; omega))) (flat_one encL_one _) (by simp only [maxLen]; omega) (by omega)
  have aU := own_app (enc := encL) (ys := []) (zs := ls) bN
  obtain ⟨ao, ap, rfl, cH⟩ := own_form aU
  refine WLS 43 bM ?_
  have bO := own_fr (own_fr bF aw (aj.apartM 0 0 rfl rfl)) ax (ad.disj 0 4 rfl rfl (by decide))
  have bP := svcsIn.fr (svcsIn.fr bG aw (aj.apartM 1 0 rfl rfl)) ax (ad.disj 1 4 rfl rfl (by decide))
  have bQ := own_fr (own_fr bH aw (aj.apartM 2 0 rfl rfl)) ax (ad.disj 2 4 rfl rfl (by decide))
  have bR := own_fr (own_fr aS aw (aj.apartM 3 0 rfl rfl)) ax (ad.disj 3 4 rfl rfl (by decide))
  refine WLq 1 [(44, P0 g3 5)] (WLv (c' := #[I6 ce, I6 cn, .slice A5 n5 c5, .slice af (0 + ns.length) ag, .slice ak (0 + ks.length) al, .slice ao (0 + ls.length) ap]) ae 0 29 g3 5 (.slice ao (0 + ls.length) ap) (fun db am ac => WLd rfl (QXn (aT _ _ (WCs (fun dc aV => WCg (WLo 31 (P0 g3 0) (.agg #[I6 ce, I6 cn, .slice A5 n5 c5, .slice af (0 + ns.length) ag, .slice ak (0 + ks.length) al, .slice ao (0 + ls.length) ap]) 45 (run_ld (ac.get 0 rfl) rfl) ?_)))))))
  refine WLv (c' := #[I6 ce, I6 cn, .slice A5 n5 c5, .slice af (0 + ns.length) ag, .slice ak (0 + ks.length) al, .slice ao (0 + ls.length) ap]) ac 1 31 g8 0 (.agg #[I6 ce, I6 cn, .slice A5 n5 c5, .slice af (0 + ns.length) ag, .slice ak (0 + ks.length) al, .slice ao (0 + ls.length) ap]) (fun dd an aF => ?_)
  have bS := own_fr (own_fr bO am (ae.apartM 0 0 rfl rfl)) an (ac.apartM 0 1 rfl rfl)
  have bT := svcsIn.fr (svcsIn.fr bP am (ae.apartM 1 0 rfl rfl)) an (ac.apartM 1 1 rfl rfl)
  have bU := own_fr (own_fr bQ am (ae.apartM 2 0 rfl rfl)) an (ac.apartM 2 1 rfl rfl)
  have bV := own_fr (own_fr bR am (ae.apartM 3 0 rfl rfl)) an (ac.apartM 3 1 rfl rfl)
  have bW := own_fr (own_fr aU am (ae.apartM 4 0 rfl rfl)) an (ac.apartM 4 1 rfl rfl)
  refine WLd rfl (QXn (aV _ _ (WC.ret ?_)))
  refine (hret' _ _ (.agg #[I6 ce, I6 cn, .slice A5 n5 c5, .slice af (0 + ns.length) ag, .slice ak (0 + ks.length) al, .slice ao (0 + ls.length) ap]) (fun a ha => ?_) ?_).1
  ·
   exact res_run ha ((ResR.cell rfl (run_ld (aF.get 1 rfl) rfl) ResR.nil)) rfl
  clear hN hret hret' aV aT aR aN be bd bc bb ba a9 hK2
  have hie_ : i = xs.length := by omega
  rw [hie_, List.take_length] at hv5
  have bX := Cx.pickM aF [] [0, 1, 2, 3, 4] (by decide) rfl rfl
  subst hnx_
  rw [show (0 + ns.length : Nat) = ns.length from Nat.zero_add _, show (0 + ks.length : Nat) = ks.length from Nat.zero_add _, show (0 + ls.length : Nat) = ls.length from Nat.zero_add _] at *
  obtain ⟨G_, hG1_, hG2_⟩ := copy_pack (V := (⟨ce, cn, xs.map (·.v), ns, ks, ls⟩ : CfgV)) bX bS bU bV bW bT (by simpa using hv5)
  exact ⟨_, _, xs5, _, _, _, _, _, _, G_, rfl, aF.fr, hG1_, hG2_⟩

end Go.Proofs.YtfligklljkcbfaaGreatDoor
