/- Contracts of functions of the program, each proved by a walk through its code; conditions stand in the statements. -/
import Derived.Test.YtoambminolcgfaaDoorLfO
namespace Go.Proofs.YtoambminolcgfaaDoor
set_option linter.unusedSimpArgs false
set_option linter.unusedVariables false
set_option linter.unusedSectionVars false
open Go Go.RowKit Go.Tw
set_option linter.unusedVariables false
theorem check_step2 {xs : List Lease} {k : Nat} {x : Lease} (h : xs[k]? = some x) : checkFrom (prevOf xs k) (xs.drop k) = (goodL x && (match prevOf xs k with | none => true | some y => ltL y x) && checkFrom (prevOf xs (k + 1)) (xs.drop (k + 1))) := by
  rw [check_step h]
  cases prevOf xs k with
  | none => rfl
  | some y => simp only [cmp_ltB]
theorem Good2_ct (A : Option Addr) (c : Nat) (xs : List Lease)  (w : World) (hr : Rd w 4 encL A xs) (hwf : ∀ l ∈ xs, okL l) (hm : xs.length < 2 ^ 40) : Calls Tryd.prog 25 #[.slice A xs.length c] w fun e w' => e = .returned (.bool (checkL xs)) ∧ Fr w w' [] := by
  refine enterD (n := 33) Tryd.func25 rfl rfl (Nat.le_of_ble_eq_true rfl) ?_
  intro Q0 hN hret hret'
  have hC := Cx.start w
  refine WC.seq (fun K1 hK2 => ?_)
  refine WC.region ?_
  refine WL.runs 1 [(2, .bool false)] (fun _ => by kernel_rfl) ?_
  refine WL.done rfl ?_
  refine QX.then_normal (hK2 _ _ ?_)
  refine WC.seq (fun K3 hK4 => ?_)
  refine WC.seq (fun K5 hK6 => ?_)
  refine WC.region ?_
  refine WL.runs 1 [(3, .int .i64 0)] (fun _ => by kernel_rfl) ?_
  refine WL.done rfl ?_
  refine QX.then_normal (hK6 _ _ ?_)
  refine WC.block ?_
  refine WC.loop (fun m_ E_ w_ => ∃ (k : Nat), m_ = xs.length - k ∧ E_ = [(0, .slice A xs.length c), (3, .int .i64 (k : Int))] ∧ Cx w [] w_ [] [] ∧ (k ≤ xs.length ∧ checkL xs = checkFrom (prevOf xs k) (xs.drop k))) ⟨_, _, ⟨0, rfl, rfl, hC, Nat.zero_le _, rfl⟩, sub_of ⟨rfl, rfl, trivial⟩⟩ (fun m10 E_ w11 K7 hK8 hI9 => ?_)
  obtain ⟨k, rfl, rfl, hC12, hk, hck⟩ := hI9
  refine WC.seq (fun K13 hK14 => ?_)
  refine WC.seq (fun K15 hK16 => ?_)
  refine WC.region ?_
  refine WL.runs 4 [(7, .bool (decide ((k : Int) < (xs.length : Int)))), (6, .int .i64 (xs.length : Int)), (5, .slice A xs.length c), (4, .int .i64 (k : Int))] (fun _ => by kernel_rfl) ?_
  refine WL.done rfl ?_
  refine QX.then_normal (hK16 _ _ ?_)
  refine WC.test_at 7 (decide ((k : Int) < (xs.length : Int))) rfl (fun t17b => ?_) (fun t17b => ?_)
  · -- (k : Int) < (xs.length : Int): true
    have t17 : (k : Int) < (xs.length : Int) := by have q_ := of_decide_eq_true t17b; omega
    refine WC.cond_true rfl ?_
    refine WC.skip ?_
    refine QX.then_normal (hK14 _ _ ?_)
    refine WC.seq (fun K18 hK19 => ?_)
    refine WC.block ?_
    refine WC.seq (fun K20 hK21 => ?_)
    refine WC.drawC hC12 [] (by kernel_rfl) (fun w22 hF23 hC24 hS25 => ?_)
    refine WD.pure (NoPanic.then (NoPanic.block (NoPanic.then (NoPanic.then (NoPanic.block (NoPanic.then hN)))))) 0 10 (.slice A xs.length c) (by kernel_rfl) (fun _ => by kernel_rfl) hS25 ?_
    refine WD.pure (NoPanic.then (NoPanic.block (NoPanic.then (NoPanic.then (NoPanic.block (NoPanic.then hN)))))) 1 11 (.int .i64 (k : Int)) (by kernel_rfl) (fun _ => by kernel_rfl) hS25 ?_
    obtain ⟨e26, he27⟩ := get_some (xs := xs) (i := k) (by omega)
    obtain ⟨b28, o30, hA29, hc31⟩ := hr.at_ _ _ he27
    have hok_e26 := hwf _ (List.mem_of_getElem? he27)
    have hokk_ := hok_e26
    obtain ⟨_, _, _, _, hfl_e26, hfh_e26, _⟩ := hokk_
    refine WD.index (NoPanic.then (NoPanic.block (NoPanic.then (NoPanic.then (NoPanic.block (NoPanic.then hN)))))) 2 A xs.length c 12 .i64 (k : Int) b28 o30 k 4 (by kernel_rfl) (by kernel_rfl) hA29 (by omega) (by omega) (o30 + k * 4) (by first | (simp; done) | omega) hS25 ?_
    refine WD.load (NoPanic.then (NoPanic.block (NoPanic.then (NoPanic.then (NoPanic.block (NoPanic.then hN)))))) 3 27 (.pointer (some ⟨b28, o30 + k * 4, none⟩)) (.agg #[.int .u32 e26.vip, .int .i64 e26.first, .int .u32 e26.dip, .int .i64 e26.exp]) 13 (by kernel_rfl) (by kernel_rfl) (fun _ hS_ => run_rdN (l := [.int .u32 e26.vip, .int .i64 e26.first, .int .u32 e26.dip, .int .i64 e26.exp]) rfl rfl (fun j u hu => by have hq_ := Fr.cell hS_ (hC24.fr.cell (hc31 j u hu) (by simp)) (by simp); simpa [Nat.add_assoc] using hq_)) hS25 ?_
    refine WD.call 4 (by kernel_rfl) rfl rfl rfl rfl rfl (by kernel_rfl) (good2_ct e26 w22 (by assumption)) ?_
    rintro _ w33 ⟨rfl, hF32⟩
    have hS35 := hS25.trans hF32 (by simp)
    refine ⟨_, rfl, hS35, ?_⟩
    have hC34 := hC24.call hF32
    refine WD.pure (NoPanic.then (NoPanic.block (NoPanic.then (NoPanic.then (NoPanic.block (NoPanic.then hN)))))) 5 15 (.bool (!(goodL e26))) (by kernel_rfl) (fun _ => by kernel_rfl) hS35 ?_
    refine WD.pure (NoPanic.then (NoPanic.block (NoPanic.then (NoPanic.then (NoPanic.block (NoPanic.then hN)))))) 6 16 (.bool (!(goodL e26))) (by kernel_rfl) (fun _ => by kernel_rfl) hS35 ?_
    refine WD.test_at 16 (!(goodL e26)) rfl (fun t36b => ?_) (fun t36b => ?_)
    · -- (!(goodL e26)) = true: true
      have t36 : (goodL e26) = false := by first | (simpa only [Bool.not_eq_true', Bool.not_eq_false'] using t36b) | simpa using t36b
      refine WD.pure (NoPanic.then (NoPanic.block (NoPanic.then (NoPanic.then (NoPanic.block (NoPanic.then hN)))))) 7 17 (undef) (by kernel_rfl) (fun _ => by kernel_rfl) hS35 ?_
      refine WD.pure (NoPanic.then (NoPanic.block (NoPanic.then (NoPanic.then (NoPanic.block (NoPanic.then hN)))))) 8 18 (undef) (by kernel_rfl) (fun _ => by kernel_rfl) hS35 ?_
      refine WD.pure (NoPanic.then (NoPanic.block (NoPanic.then (NoPanic.then (NoPanic.block (NoPanic.then hN)))))) 9 19 (undef) (by kernel_rfl) (fun _ => by kernel_rfl) hS35 ?_
      refine WD.pure (NoPanic.then (NoPanic.block (NoPanic.then (NoPanic.then (NoPanic.block (NoPanic.then hN)))))) 10 20 (undef) (by kernel_rfl) (fun _ => by kernel_rfl) hS35 ?_
      refine WD.pure (NoPanic.then (NoPanic.block (NoPanic.then (NoPanic.then (NoPanic.block (NoPanic.then hN)))))) 11 21 (undef) (by kernel_rfl) (fun _ => by kernel_rfl) hS35 ?_
      refine WD.pure (NoPanic.then (NoPanic.block (NoPanic.then (NoPanic.then (NoPanic.block (NoPanic.then hN)))))) 12 22 (undef) (by kernel_rfl) (fun _ => by kernel_rfl) hS35 ?_
      refine WD.pure (NoPanic.then (NoPanic.block (NoPanic.then (NoPanic.then (NoPanic.block (NoPanic.then hN)))))) 13 23 (undef) (by kernel_rfl) (fun _ => by kernel_rfl) hS35 ?_
      refine WD.pure (NoPanic.then (NoPanic.block (NoPanic.then (NoPanic.then (NoPanic.block (NoPanic.then hN)))))) 14 24 (undef) (by kernel_rfl) (fun _ => by kernel_rfl) hS35 ?_
      refine WD.pure (NoPanic.then (NoPanic.block (NoPanic.then (NoPanic.then (NoPanic.block (NoPanic.then hN)))))) 15 25 (undef) (by kernel_rfl) (fun _ => by kernel_rfl) hS35 ?_
      refine WD.pure (NoPanic.then (NoPanic.block (NoPanic.then (NoPanic.then (NoPanic.block (NoPanic.then hN)))))) 16 26 (undef) (by kernel_rfl) (fun _ => by kernel_rfl) hS35 ?_
      refine WD.pure (NoPanic.then (NoPanic.block (NoPanic.then (NoPanic.then (NoPanic.block (NoPanic.then hN)))))) 17 27 (undef) (by kernel_rfl) (fun _ => by kernel_rfl) hS35 ?_
      refine WD.pure (NoPanic.then (NoPanic.block (NoPanic.then (NoPanic.then (NoPanic.block (NoPanic.then hN)))))) 18 28 (undef) (by kernel_rfl) (fun _ => by kernel_rfl) hS35 ?_
      refine WD.pure (NoPanic.then (NoPanic.block (NoPanic.then (NoPanic.then (NoPanic.block (NoPanic.then hN)))))) 19 29 (undef) (by kernel_rfl) (fun _ => by kernel_rfl) hS35 ?_
      refine WD.pure (NoPanic.then (NoPanic.block (NoPanic.then (NoPanic.then (NoPanic.block (NoPanic.then hN)))))) 20 30 (undef) (by kernel_rfl) (fun _ => by kernel_rfl) hS35 ?_
      refine WD.pure (NoPanic.then (NoPanic.block (NoPanic.then (NoPanic.then (NoPanic.block (NoPanic.then hN)))))) 21 31 (undef) (by kernel_rfl) (fun _ => by kernel_rfl) hS35 ?_
      refine WD.pure (NoPanic.then (NoPanic.block (NoPanic.then (NoPanic.then (NoPanic.block (NoPanic.then hN)))))) 22 32 (.bool true) (by kernel_rfl) (fun _ => by kernel_rfl) hS35 ?_
      refine WD.done (by kernel_rfl) ?_
      refine QX.then_normal (hK21 _ _ ?_)
      refine WC.cond_true rfl ?_
      refine WC.seq (fun K37 hK38 => ?_)
      refine WC.region ?_
      refine WL.runs 1 [(2, .bool false)] (fun _ => by kernel_rfl) ?_
      refine WL.done rfl ?_
      refine QX.then_normal (hK38 _ _ ?_)
      refine WC.ret ?_
      refine QX.block_ret ?_
      refine QX.then_ret ?_
      refine QX.then_ret ?_
      refine QX.block_ret ?_
      refine QX.then_ret ?_
      refine (hret _ _ _ rfl ?_).1
      clear hN hret hret' hK38 hK21 hK19 hK16 hK14 hK6 hK4 hK2
      refine ⟨?_, hC34.fr⟩
      rw [hck, check_step2 he27]
      simp [shut, *]; try grind
    · -- (!(goodL e26)) = true: false
      have t36 : (goodL e26) = true := by first | (simpa only [Bool.not_eq_true', Bool.not_eq_false'] using t36b) | simpa using t36b
      refine WD.pure (NoPanic.then (NoPanic.block (NoPanic.then (NoPanic.then (NoPanic.block (NoPanic.then hN)))))) 7 17 (.int .i64 (k : Int)) (by kernel_rfl) (fun _ => by kernel_rfl) hS35 ?_
      refine WD.pure (NoPanic.then (NoPanic.block (NoPanic.then (NoPanic.then (NoPanic.block (NoPanic.then hN)))))) 8 18 (.bool (decide ((k : Int) > 0))) (by kernel_rfl) (fun _ => by kernel_rfl) hS35 ?_
      refine WD.pure (NoPanic.then (NoPanic.block (NoPanic.then (NoPanic.then (NoPanic.block (NoPanic.then hN)))))) 9 19 (.bool (decide ((k : Int) > 0))) (by kernel_rfl) (fun _ => by kernel_rfl) hS35 ?_
      refine WD.test_at 19 (decide ((k : Int) > 0)) rfl (fun t39b => ?_) (fun t39b => ?_)
      · -- (k : Int) > 0: true
        have t39 : (0 : Int) < (k : Int) := by have q_ := of_decide_eq_true t39b; omega
        refine WD.pure (NoPanic.then (NoPanic.block (NoPanic.then (NoPanic.then (NoPanic.block (NoPanic.then hN)))))) 10 20 (.slice A xs.length c) (by kernel_rfl) (fun _ => by kernel_rfl) hS35 ?_
        refine WD.pure (NoPanic.then (NoPanic.block (NoPanic.then (NoPanic.then (NoPanic.block (NoPanic.then hN)))))) 11 21 (.int .i64 (k : Int)) (by kernel_rfl) (fun _ => by kernel_rfl) hS35 ?_
        refine WD.pure (NoPanic.then (NoPanic.block (NoPanic.then (NoPanic.then (NoPanic.block (NoPanic.then hN)))))) 12 22 (.int .i64 (IntKind.i64.wrap ((k : Int) - 1))) (by kernel_rfl) (fun _ => by kernel_rfl) hS35 ?_
        refine WD.recast (show (.int .i64 (IntKind.i64.wrap ((k : Int) - 1)) : Value) = .int .i64 ((k - 1 : Nat) : Int) from by rw [wrap_in_i64 _ (by omega) (by omega)]; congr 1; omega) ?_
        obtain ⟨e40, he41⟩ := get_some (xs := xs) (i := (k - 1)) (by omega)
        obtain ⟨b42, o44, hA43, hc45⟩ := hr.at_ _ _ he41
        have hok_e40 := hwf _ (List.mem_of_getElem? he41)
        have hokk_ := hok_e40
        obtain ⟨_, _, _, _, hfl_e40, hfh_e40, _⟩ := hokk_
        refine WD.index (NoPanic.then (NoPanic.block (NoPanic.then (NoPanic.then (NoPanic.block (NoPanic.then hN)))))) 13 A xs.length c 23 .i64 ((k - 1 : Nat) : Int) b42 o44 (k - 1) 4 (by kernel_rfl) (by kernel_rfl) hA43 (by omega) (by omega) (o44 + (k - 1) * 4) (by first | (simp; done) | omega) hS35 ?_
        refine WD.pure (NoPanic.then (NoPanic.block (NoPanic.then (NoPanic.then (NoPanic.block (NoPanic.then hN)))))) 15 25 (.slice A xs.length c) (by kernel_rfl) (fun _ => by kernel_rfl) hS35 ?_
        refine WD.pure (NoPanic.then (NoPanic.block (NoPanic.then (NoPanic.then (NoPanic.block (NoPanic.then hN)))))) 16 26 (.int .i64 (k : Int)) (by kernel_rfl) (fun _ => by kernel_rfl) hS35 ?_
        refine WD.index (NoPanic.then (NoPanic.block (NoPanic.then (NoPanic.then (NoPanic.block (NoPanic.then hN)))))) 17 A xs.length c 27 .i64 (k : Int) b28 o30 k 4 (by kernel_rfl) (by kernel_rfl) hA29 (by omega) (by omega) (o30 + k * 4) (by first | (simp; done) | omega) hS35 ?_
        refine WD.load (NoPanic.then (NoPanic.block (NoPanic.then (NoPanic.then (NoPanic.block (NoPanic.then hN)))))) 14 27 (.pointer (some ⟨b42, o44 + (k - 1) * 4, none⟩)) (.agg #[.int .u32 e40.vip, .int .i64 e40.first, .int .u32 e40.dip, .int .i64 e40.exp]) 24 (by kernel_rfl) (by kernel_rfl) (fun _ hS_ => run_rdN (l := [.int .u32 e40.vip, .int .i64 e40.first, .int .u32 e40.dip, .int .i64 e40.exp]) rfl rfl (fun j u hu => by have hq_ := Fr.cell hS_ (hC24.fr.cell (hc45 j u hu) (by simp)) (by simp); simpa [Nat.add_assoc] using hq_)) hS35 ?_
        refine WD.load (NoPanic.then (NoPanic.block (NoPanic.then (NoPanic.then (NoPanic.block (NoPanic.then hN)))))) 18 27 (.pointer (some ⟨b28, o30 + k * 4, none⟩)) (.agg #[.int .u32 e26.vip, .int .i64 e26.first, .int .u32 e26.dip, .int .i64 e26.exp]) 28 (by kernel_rfl) (by kernel_rfl) (fun _ hS_ => run_rdN (l := [.int .u32 e26.vip, .int .i64 e26.first, .int .u32 e26.dip, .int .i64 e26.exp]) rfl rfl (fun j u hu => by have hq_ := Fr.cell hS_ (hC24.fr.cell (hc31 j u hu) (by simp)) (by simp); simpa [Nat.add_assoc] using hq_)) hS35 ?_
        refine WD.call 19 (by kernel_rfl) rfl rfl rfl rfl rfl (by kernel_rfl) (less2_ct e40 e26 w33) ?_
        rintro _ w51 ⟨rfl, hF50⟩
        have hS53 := hS35.trans hF50 (by simp)
        refine ⟨_, rfl, hS53, ?_⟩
        have hC52 := hC34.call hF50
        refine WD.pure (NoPanic.then (NoPanic.block (NoPanic.then (NoPanic.then (NoPanic.block (NoPanic.then hN)))))) 20 30 (.bool (!(ltL e40 e26))) (by kernel_rfl) (fun _ => by kernel_rfl) hS53 ?_
        refine WD.pure (NoPanic.then (NoPanic.block (NoPanic.then (NoPanic.then (NoPanic.block (NoPanic.then hN)))))) 21 31 (.bool (!(ltL e40 e26))) (by kernel_rfl) (fun _ => by kernel_rfl) hS53 ?_
        refine WD.pure (NoPanic.then (NoPanic.block (NoPanic.then (NoPanic.then (NoPanic.block (NoPanic.then hN)))))) 22 32 (.bool (!(ltL e40 e26))) (by kernel_rfl) (fun _ => by kernel_rfl) hS53 ?_
        refine WD.done (by kernel_rfl) ?_
        refine QX.then_normal (hK21 _ _ ?_)
        refine WC.test_at 32 (!(ltL e40 e26)) rfl (fun t54b => ?_) (fun t54b => ?_)
        · -- (!(ltL e40 e26)) = true: true
          have t54 : (ltL e40 e26) = false := by first | (simpa only [Bool.not_eq_true', Bool.not_eq_false'] using t54b) | simpa using t54b
          refine WC.cond_true rfl ?_
          refine WC.seq (fun K55 hK56 => ?_)
          refine WC.region ?_
          refine WL.runs 1 [(2, .bool false)] (fun _ => by kernel_rfl) ?_
          refine WL.done rfl ?_
          refine QX.then_normal (hK56 _ _ ?_)
          refine WC.ret ?_
          refine QX.block_ret ?_
          refine QX.then_ret ?_
          refine QX.then_ret ?_
          refine QX.block_ret ?_
          refine QX.then_ret ?_
          refine (hret _ _ _ rfl ?_).1
          clear hN hret hret' hK56 hK21 hK19 hK16 hK14 hK6 hK4 hK2
          refine ⟨?_, hC52.fr⟩
          rw [hck, check_step2 he27]
          rw [show prevOf xs k = some e40 from by simp [prevOf, he41]; omega]
          simp [shut, *]; try grind
        · -- (!(ltL e40 e26)) = true: false
          have t54 : (ltL e40 e26) = true := by first | (simpa only [Bool.not_eq_true', Bool.not_eq_false'] using t54b) | simpa using t54b
          refine WC.cond_false rfl ?_
          refine WC.skip ?_
          refine QX.block_normal ?_
          refine QX.then_normal (hK19 _ _ ?_)
          refine WC.region ?_
          refine WL.runs 2 [(9, .int .i64 (IntKind.i64.wrap ((k : Int) + 1))), (8, .int .i64 (k : Int))] (fun _ => by kernel_rfl) ?_
          refine WL.recast (show (.int .i64 (IntKind.i64.wrap ((k : Int) + 1)) : Value) = .int .i64 ((k : Int) + 1) from by rw [wrap_in_i64 ((k : Int) + 1) (by omega) (by omega)]) ?_
          refine WL.runs 1 [(3, .int .i64 ((k : Int) + 1))] (fun _ => by kernel_rfl) ?_
          refine WL.done rfl ?_
          refine QX.then_normal ?_
          have hC57 := hC52.pick [] [] rfl rfl
          refine fun a_ ha_ => hK8 _ _ _ ?_ ⟨k + 1, rfl, rfl, hC57, by omega, by rw [hck, check_step2 he27, show prevOf xs k = some e40 from by simp [prevOf, he41]; omega]; simp [*]; try grind⟩ a_ (ha_.weaken (sub_of ⟨rfl, rfl, trivial⟩))
          omega
      · -- (k : Int) > 0: false
        have t39 : (k : Int) ≤ 0 := by have q_ := of_decide_eq_false t39b; omega
        refine WD.pure (NoPanic.then (NoPanic.block (NoPanic.then (NoPanic.then (NoPanic.block (NoPanic.then hN)))))) 10 20 (undef) (by kernel_rfl) (fun _ => by kernel_rfl) hS35 ?_
        refine WD.pure (NoPanic.then (NoPanic.block (NoPanic.then (NoPanic.then (NoPanic.block (NoPanic.then hN)))))) 11 21 (undef) (by kernel_rfl) (fun _ => by kernel_rfl) hS35 ?_
        refine WD.pure (NoPanic.then (NoPanic.block (NoPanic.then (NoPanic.then (NoPanic.block (NoPanic.then hN)))))) 12 22 (undef) (by kernel_rfl) (fun _ => by kernel_rfl) hS35 ?_
        refine WD.pure (NoPanic.then (NoPanic.block (NoPanic.then (NoPanic.then (NoPanic.block (NoPanic.then hN)))))) 13 23 (undef) (by kernel_rfl) (fun _ => by kernel_rfl) hS35 ?_
        refine WD.pure (NoPanic.then (NoPanic.block (NoPanic.then (NoPanic.then (NoPanic.block (NoPanic.then hN)))))) 14 24 (undef) (by kernel_rfl) (fun _ => by kernel_rfl) hS35 ?_
        refine WD.pure (NoPanic.then (NoPanic.block (NoPanic.then (NoPanic.then (NoPanic.block (NoPanic.then hN)))))) 15 25 (undef) (by kernel_rfl) (fun _ => by kernel_rfl) hS35 ?_
        refine WD.pure (NoPanic.then (NoPanic.block (NoPanic.then (NoPanic.then (NoPanic.block (NoPanic.then hN)))))) 16 26 (undef) (by kernel_rfl) (fun _ => by kernel_rfl) hS35 ?_
        refine WD.pure (NoPanic.then (NoPanic.block (NoPanic.then (NoPanic.then (NoPanic.block (NoPanic.then hN)))))) 17 27 (undef) (by kernel_rfl) (fun _ => by kernel_rfl) hS35 ?_
        refine WD.pure (NoPanic.then (NoPanic.block (NoPanic.then (NoPanic.then (NoPanic.block (NoPanic.then hN)))))) 18 28 (undef) (by kernel_rfl) (fun _ => by kernel_rfl) hS35 ?_
        refine WD.pure (NoPanic.then (NoPanic.block (NoPanic.then (NoPanic.then (NoPanic.block (NoPanic.then hN)))))) 19 29 (undef) (by kernel_rfl) (fun _ => by kernel_rfl) hS35 ?_
        refine WD.pure (NoPanic.then (NoPanic.block (NoPanic.then (NoPanic.then (NoPanic.block (NoPanic.then hN)))))) 20 30 (undef) (by kernel_rfl) (fun _ => by kernel_rfl) hS35 ?_
        refine WD.pure (NoPanic.then (NoPanic.block (NoPanic.then (NoPanic.then (NoPanic.block (NoPanic.then hN)))))) 21 31 (.bool false) (by kernel_rfl) (fun _ => by kernel_rfl) hS35 ?_
        refine WD.pure (NoPanic.then (NoPanic.block (NoPanic.then (NoPanic.then (NoPanic.block (NoPanic.then hN)))))) 22 32 (.bool false) (by kernel_rfl) (fun _ => by kernel_rfl) hS35 ?_
        refine WD.done (by kernel_rfl) ?_
        refine QX.then_normal (hK21 _ _ ?_)
        refine WC.cond_false rfl ?_
        refine WC.skip ?_
        refine QX.block_normal ?_
        refine QX.then_normal (hK19 _ _ ?_)
        refine WC.region ?_
        refine WL.runs 2 [(9, .int .i64 (IntKind.i64.wrap ((k : Int) + 1))), (8, .int .i64 (k : Int))] (fun _ => by kernel_rfl) ?_
        refine WL.recast (show (.int .i64 (IntKind.i64.wrap ((k : Int) + 1)) : Value) = .int .i64 ((k : Int) + 1) from by rw [wrap_in_i64 ((k : Int) + 1) (by omega) (by omega)]) ?_
        refine WL.runs 1 [(3, .int .i64 ((k : Int) + 1))] (fun _ => by kernel_rfl) ?_
        refine WL.done rfl ?_
        refine QX.then_normal ?_
        have hC58 := hC34.pick [] [] rfl rfl
        refine fun a_ ha_ => hK8 _ _ _ ?_ ⟨k + 1, rfl, rfl, hC58, by omega, by rw [hck, check_step2 he27, show prevOf xs k = none from by simp [prevOf]; omega]; simp [*]⟩ a_ (ha_.weaken (sub_of ⟨rfl, rfl, trivial⟩))
        omega
  · -- (k : Int) < (xs.length : Int): false
    have t17 : (xs.length : Int) ≤ (k : Int) := by have q_ := of_decide_eq_false t17b; omega
    refine WC.cond_false rfl ?_
    refine WC.exit ?_
    refine QX.then_exit ?_
    refine QX.then_exit ?_
    refine QX.block_hit ?_
    refine QX.then_normal (hK4 _ _ ?_)
    refine WC.seq (fun K59 hK60 => ?_)
    refine WC.region ?_
    refine WL.runs 1 [(2, .bool true)] (fun _ => by kernel_rfl) ?_
    refine WL.done rfl ?_
    refine QX.then_normal (hK60 _ _ ?_)
    refine WC.ret ?_
    refine (hret _ _ _ rfl ?_).1
    clear hN hret hret' hK60 hK16 hK14 hK6 hK4 hK2
    exact ⟨by rw [hck, check_end (by omega)]; rfl, hC12.fr⟩

theorem Find2_ct (A : Option Addr) (c : Nat) (xs : List Lease) (vip port now : Int) (w : World) (hr : Rd w 4 encL A xs) (hwf : ∀ l ∈ xs, okL l) (hm : xs.length < 2 ^ 40) (hp : -9223372036854775808 ≤ port ∧ port ≤ 9223372036854775807) : Calls Tryd.prog 14 #[.slice A xs.length c, .int .u32 vip, .int .i64 port, .int .i64 now] w fun e w' => e = .returned (.tuple #[.agg #[.int .u32 ((headL (xs.filter (findP vip port now))).vip), .int .i64 ((headL (xs.filter (findP vip port now))).first), .int .u32 ((headL (xs.filter (findP vip port now))).dip), .int .i64 ((headL (xs.filter (findP vip port now))).exp)], .bool (hasL (xs.filter (findP vip port now)))]) ∧ Fr w w' [] := by
  refine enterD (n := 40) Tryd.func14 rfl rfl (Nat.le_of_ble_eq_true rfl) ?_
  intro Q0 hN hret hret'
  have hC := Cx.start w
  refine WC.seq (fun K1 hK2 => ?_)
  refine WC.region ?_
  refine WL.newM hC (fun b => .pointer (some ⟨b, 0, none⟩)) (.cells #[.int .u32 0, .int .i64 0, .int .u32 0, .int .i64 0] 27) 8 (fun _ => by kernel_rfl) (fun g3 w4 hb7 hF5 hC6 => ?_)
  refine WL.runs 1 [(9, .bool false)] (fun _ => by kernel_rfl) ?_
  refine WL.done rfl ?_
  refine QX.then_normal (hK2 _ _ ?_)
  refine WC.seq (fun K8 hK9 => ?_)
  refine WC.seq (fun K10 hK11 => ?_)
  refine WC.region ?_
  refine WL.runs 1 [(10, .int .i64 0)] (fun _ => by kernel_rfl) ?_
  refine WL.done rfl ?_
  refine QX.then_normal (hK11 _ _ ?_)
  refine WC.block ?_
  refine WC.loop (fun m_ E_ w_ => ∃ (k : Nat), m_ = xs.length - k ∧ E_ = [(0, .slice A xs.length c), (1, .int .u32 vip), (2, .int .i64 port), (3, .int .i64 now), (8, .pointer (some ⟨g3, 0, none⟩)), (10, .int .i64 (k : Int))] ∧ Cx w [] w_ [(g3, .cells #[.int .u32 0, .int .i64 0, .int .u32 0, .int .i64 0] 27)] [] ∧ (k ≤ xs.length ∧ (xs.take k).filter (findP vip port now) = [])) ⟨_, _, ⟨0, rfl, rfl, hC6, Nat.zero_le _, rfl⟩, sub_of ⟨rfl, rfl, rfl, rfl, rfl, rfl, trivial⟩⟩ (fun m15 E_ w16 K12 hK13 hI14 => ?_)
  obtain ⟨k, rfl, rfl, hC17, hk, hno⟩ := hI14
  refine WC.seq (fun K18 hK19 => ?_)
  refine WC.seq (fun K20 hK21 => ?_)
  refine WC.region ?_
  refine WL.runs 4 [(15, .bool (decide ((k : Int) < (xs.length : Int)))), (14, .int .i64 (xs.length : Int)), (13, .slice A xs.length c), (12, .int .i64 (k : Int))] (fun _ => by kernel_rfl) ?_
  refine WL.done rfl ?_
  refine QX.then_normal (hK21 _ _ ?_)
  refine WC.test_at 15 (decide ((k : Int) < (xs.length : Int))) rfl (fun t22b => ?_) (fun t22b => ?_)
  · -- (k : Int) < (xs.length : Int): true
    have t22 : (k : Int) < (xs.length : Int) := by have q_ := of_decide_eq_true t22b; omega
    refine WC.cond_true rfl ?_
    refine WC.skip ?_
    refine QX.then_normal (hK19 _ _ ?_)
    refine WC.seq (fun K23 hK24 => ?_)
    refine WC.block ?_
    refine WC.seq (fun K25 hK26 => ?_)
    refine WC.region ?_
    refine WL.runs 2 [(19, .int .i64 (k : Int)), (18, .slice A xs.length c)] (fun _ => by kernel_rfl) ?_
    obtain ⟨e27, he28⟩ := get_some (xs := xs) (i := k) (by omega)
    obtain ⟨b29, o31, hA30, hc32⟩ := hr.at_ _ _ he28
    have hok_e27 := hwf _ (List.mem_of_getElem? he28)
    have hokk_ := hok_e27
    obtain ⟨_, _, _, _, hfl_e27, hfh_e27, _⟩ := hokk_
    refine WL.index A xs.length c 20 .i64 (k : Int) b29 o31 k 4 (by kernel_rfl) hA30 (by omega) (by omega) (o31 + k * 4) (by first | (simp; done) | omega) ?_
    refine WL.load 27 (.pointer (some ⟨b29, o31 + k * 4, none⟩)) (.agg #[.int .u32 e27.vip, .int .i64 e27.first, .int .u32 e27.dip, .int .i64 e27.exp]) 21 (by kernel_rfl) (run_rdN (l := [.int .u32 e27.vip, .int .i64 e27.first, .int .u32 e27.dip, .int .i64 e27.exp]) rfl rfl (fun j u hu => by have hq_ := hC17.fr.cell (hc32 j u hu) (by simp); simpa [Nat.add_assoc] using hq_)) ?_
    refine WL.newM hC17 (fun b => .pointer (some ⟨b, 0, none⟩)) (.cells #[.int .u32 0, .int .i64 0, .int .u32 0, .int .i64 0] 27) 11 (fun _ => by kernel_rfl) (fun g33 w34 hb37 hF35 hC36 => ?_)
    refine WL.storeM hC36 1 27 g33 0 (.agg #[.int .u32 e27.vip, .int .i64 e27.first, .int .u32 e27.dip, .int .i64 e27.exp]) (by kernel_rfl) rfl rfl (fun w38 hF40 hC41 => ?_)
    refine WL.done rfl ?_
    refine QX.then_normal (hK26 _ _ ?_)
    refine WC.seq (fun K42 hK43 => ?_)
    refine WC.region ?_
    refine WL.runs 1 [(22, .pointer (some ⟨g33, 0, none⟩))] (fun _ => by kernel_rfl) ?_
    refine WL.load 23 (.pointer (some ⟨g33, 0, none⟩)) (.int .u32 e27.vip) 23 (by kernel_rfl) (run_ld (hC41.get 1 rfl) rfl) ?_
    refine WL.runs 3 [(26, .bool (e27.vip == vip)), (25, .bool (e27.vip == vip)), (24, .int .u32 vip)] (fun _ => by kernel_rfl) ?_
    refine WL.test_at 26 (e27.vip == vip) rfl (fun t44b => ?_) (fun t44b => ?_)
    · -- e27.vip = vip: true
      have t44 : e27.vip = vip := by simpa using t44b
      refine WL.runs 2 [(28, .pointer (some ⟨g33, 3, none⟩)), (27, .int .i64 now)] (fun _ => by kernel_rfl) ?_
      refine WL.load 3 (.pointer (some ⟨g33, 3, none⟩)) (.int .i64 e27.exp) 29 (by kernel_rfl) (run_ld (hC41.get 1 rfl) rfl) ?_
      refine WL.runs 3 [(32, .bool (decide (now ≤ e27.exp))), (31, .bool (decide (now ≤ e27.exp))), (30, .bool (decide (now ≤ e27.exp)))] (fun _ => by kernel_rfl) ?_
      refine WL.test_at 32 (decide (now ≤ e27.exp)) rfl (fun t45b => ?_) (fun t45b => ?_)
      · -- now ≤ e27.exp: true
        have t45 : now ≤ e27.exp := by have q_ := of_decide_eq_true t45b; omega
        refine WL.runs 2 [(34, .pointer (some ⟨g33, 1, none⟩)), (33, .int .i64 port)] (fun _ => by kernel_rfl) ?_
        refine WL.load 3 (.pointer (some ⟨g33, 1, none⟩)) (.int .i64 e27.first) 35 (by kernel_rfl) (run_ld (hC41.get 1 rfl) rfl) ?_
        refine WL.call rfl rfl rfl rfl rfl (by kernel_rfl) (inside2_ct port e27.first w38 (by omega) (by omega)) ?_
        rintro _ w47 ⟨rfl, hF46⟩
        refine ⟨_, rfl, ?_⟩
        have hC48 := hC41.call hF46
        refine WL.runs 1 [(37, .bool (insideB port e27.first))] (fun _ => by kernel_rfl) ?_
        refine WL.done rfl ?_
        refine QX.then_normal (hK43 _ _ ?_)
        refine WC.test_at 37 (insideB port e27.first) rfl (fun t49b => ?_) (fun t49b => ?_)
        · -- (insideB port e27.first) = true: true
          refine WC.cond_true rfl ?_
          refine WC.seq (fun K50 hK51 => ?_)
          refine WC.region ?_
          refine WL.load 27 (.pointer (some ⟨g33, 0, none⟩)) (.agg #[.int .u32 e27.vip, .int .i64 e27.first, .int .u32 e27.dip, .int .i64 e27.exp]) 38 (by kernel_rfl) (run_ld (hC48.get 1 rfl) rfl) ?_
          refine WL.storeM hC48 0 27 g3 0 (.agg #[.int .u32 e27.vip, .int .i64 e27.first, .int .u32 e27.dip, .int .i64 e27.exp]) (by kernel_rfl) rfl rfl (fun w52 hF54 hC55 => ?_)
          refine WL.runs 1 [(9, .bool true)] (fun _ => by kernel_rfl) ?_
          refine WL.done rfl ?_
          refine QX.then_normal (hK51 _ _ ?_)
          refine WC.ret ?_
          refine QX.block_ret ?_
          refine QX.then_ret ?_
          refine QX.then_ret ?_
          refine QX.block_ret ?_
          refine QX.then_ret ?_
          refine (hret' _ _ (.tuple #[.agg #[.int .u32 e27.vip, .int .i64 e27.first, .int .u32 e27.dip, .int .i64 e27.exp], .bool true]) (fun a ha => ?_) ?_).1
          · exact res_run ha ((ResR.cell rfl (run_ld (hC55.get 0 rfl) rfl) (ResR.tmp rfl ResR.nil))) rfl
          clear hN hret hret' hK51 hK43 hK26 hK24 hK21 hK19 hK11 hK9 hK2
          obtain ⟨q1, q2⟩ := filter_hit hno he28 (by rw [findP_inside]; simp [t22, t22b, t44, t44b, t45, t45b, t49b])
          exact ⟨by rw [q1, q2]; try rfl, hC55.fr⟩
        · -- (insideB port e27.first) = true: false
          refine WC.cond_false rfl ?_
          refine WC.skip ?_
          refine QX.block_normal ?_
          refine QX.then_normal (hK24 _ _ ?_)
          refine WC.region ?_
          refine WL.runs 2 [(17, .int .i64 (IntKind.i64.wrap ((k : Int) + 1))), (16, .int .i64 (k : Int))] (fun _ => by kernel_rfl) ?_
          refine WL.recast (show (.int .i64 (IntKind.i64.wrap ((k : Int) + 1)) : Value) = .int .i64 ((k : Int) + 1) from by rw [wrap_in_i64 ((k : Int) + 1) (by omega) (by omega)]) ?_
          refine WL.runs 1 [(10, .int .i64 ((k : Int) + 1))] (fun _ => by kernel_rfl) ?_
          refine WL.done rfl ?_
          refine QX.then_normal ?_
          have hC56 := hC48.pick [0] [] rfl rfl
          refine fun a_ ha_ => hK13 _ _ _ ?_ ⟨k + 1, rfl, rfl, hC56, by omega, filter_snoc_no hno he28 (by rw [findP_inside]; simp [t22, t22b, t44, t44b, t45, t45b, t49b])⟩ a_ (ha_.weaken (sub_of ⟨rfl, rfl, rfl, rfl, rfl, rfl, trivial⟩))
          omega
      · -- now ≤ e27.exp: false
        have t45 : e27.exp < now := by have q_ := of_decide_eq_false t45b; omega
        refine WL.runs 5 [(37, .bool false), (36, undef), (35, undef), (34, undef), (33, undef)] (fun _ => by kernel_rfl) ?_
        refine WL.done rfl ?_
        refine QX.then_normal (hK43 _ _ ?_)
        refine WC.cond_false rfl ?_
        refine WC.skip ?_
        refine QX.block_normal ?_
        refine QX.then_normal (hK24 _ _ ?_)
        refine WC.region ?_
        refine WL.runs 2 [(17, .int .i64 (IntKind.i64.wrap ((k : Int) + 1))), (16, .int .i64 (k : Int))] (fun _ => by kernel_rfl) ?_
        refine WL.recast (show (.int .i64 (IntKind.i64.wrap ((k : Int) + 1)) : Value) = .int .i64 ((k : Int) + 1) from by rw [wrap_in_i64 ((k : Int) + 1) (by omega) (by omega)]) ?_
        refine WL.runs 1 [(10, .int .i64 ((k : Int) + 1))] (fun _ => by kernel_rfl) ?_
        refine WL.done rfl ?_
        refine QX.then_normal ?_
        have hC57 := hC41.pick [0] [] rfl rfl
        refine fun a_ ha_ => hK13 _ _ _ ?_ ⟨k + 1, rfl, rfl, hC57, by omega, filter_snoc_no hno he28 (by rw [findP_inside]; simp [t22, t22b, t44, t44b, t45, t45b])⟩ a_ (ha_.weaken (sub_of ⟨rfl, rfl, rfl, rfl, rfl, rfl, trivial⟩))
        omega
    · -- e27.vip = vip: false
      have t44 : ¬ (e27.vip = vip) := by simpa using t44b
      refine WL.runs 11 [(37, .bool false), (36, undef), (35, undef), (34, undef), (33, undef), (32, .bool false), (31, .bool false), (30, undef), (29, undef), (28, undef), (27, undef)] (fun _ => by kernel_rfl) ?_
      refine WL.done rfl ?_
      refine QX.then_normal (hK43 _ _ ?_)
      refine WC.cond_false rfl ?_
      refine WC.skip ?_
      refine QX.block_normal ?_
      refine QX.then_normal (hK24 _ _ ?_)
      refine WC.region ?_
      refine WL.runs 2 [(17, .int .i64 (IntKind.i64.wrap ((k : Int) + 1))), (16, .int .i64 (k : Int))] (fun _ => by kernel_rfl) ?_
      refine WL.recast (show (.int .i64 (IntKind.i64.wrap ((k : Int) + 1)) : Value) = .int .i64 ((k : Int) + 1) from by rw [wrap_in_i64 ((k : Int) + 1) (by omega) (by omega)]) ?_
      refine WL.runs 1 [(10, .int .i64 ((k : Int) + 1))] (fun _ => by kernel_rfl) ?_
      refine WL.done rfl ?_
      refine QX.then_normal ?_
      have hC58 := hC41.pick [0] [] rfl rfl
      refine fun a_ ha_ => hK13 _ _ _ ?_ ⟨k + 1, rfl, rfl, hC58, by omega, filter_snoc_no hno he28 (by rw [findP_inside]; simp [t22, t22b, t44, t44b])⟩ a_ (ha_.weaken (sub_of ⟨rfl, rfl, rfl, rfl, rfl, rfl, trivial⟩))
      omega
  · -- (k : Int) < (xs.length : Int): false
    have t22 : (xs.length : Int) ≤ (k : Int) := by have q_ := of_decide_eq_false t22b; omega
    refine WC.cond_false rfl ?_
    refine WC.exit ?_
    refine QX.then_exit ?_
    refine QX.then_exit ?_
    refine QX.block_hit ?_
    refine QX.then_normal (hK9 _ _ ?_)
    refine WC.seq (fun K59 hK60 => ?_)
    refine WC.region ?_
    refine WL.runs 1 [(39, .agg #[.int .u32 0, .int .i64 0, .int .u32 0, .int .i64 0])] (fun _ => by kernel_rfl) ?_
    refine WL.storeM hC17 0 27 g3 0 (.agg #[.int .u32 0, .int .i64 0, .int .u32 0, .int .i64 0]) (by kernel_rfl) rfl rfl (fun w61 hF63 hC64 => ?_)
    refine WL.runs 1 [(9, .bool false)] (fun _ => by kernel_rfl) ?_
    refine WL.done rfl ?_
    refine QX.then_normal (hK60 _ _ ?_)
    refine WC.ret ?_
    refine (hret' _ _ (.tuple #[.agg #[.int .u32 0, .int .i64 0, .int .u32 0, .int .i64 0], .bool false]) (fun a ha => ?_) ?_).1
    · exact res_run ha ((ResR.cell rfl (run_ld (hC64.get 0 rfl) rfl) (ResR.tmp rfl ResR.nil))) rfl
    clear hN hret hret' hK60 hK21 hK19 hK11 hK9 hK2
    obtain ⟨q1, q2⟩ := filter_end hno (by omega)
    exact ⟨by rw [q1, q2]; try rfl, hC64.fr⟩

theorem Of2_ct (A : Option Addr) (c : Nat) (xs : List Lease) (dip now : Int) (w : World) (hr : Rd w 4 encL A xs) (hwf : ∀ l ∈ xs, okL l) (hm : xs.length < 2 ^ 40) : Calls Tryd.prog 17 #[.slice A xs.length c, .int .u32 dip, .int .i64 now] w fun e w' => ∃ v, e = .returned v ∧ Fr w w' [] ∧ w'.ownsRow w.heap.size 27 4 v (xs.filter (ofP dip now)).length ((xs.filter (ofP dip now)).flatMap encL) := by
  refine enterD (n := 39) Tryd.func17 rfl rfl (Nat.le_of_ble_eq_true rfl) ?_
  intro Q0 hN hret hret'
  have hC := Cx.start w
  refine WC.seq (fun K1 hK2 => ?_)
  refine WC.region ?_
  refine WL.runs 1 [(6, .slice none 0 0)] (fun _ => by kernel_rfl) ?_
  refine WL.done rfl ?_
  refine QX.then_normal (hK2 _ _ ?_)
  refine WC.seq (fun K3 hK4 => ?_)
  refine WC.region ?_
  refine WL.runs 1 [(7, .slice none 0 0)] (fun _ => by kernel_rfl) ?_
  refine WL.done rfl ?_
  refine QX.then_normal (hK4 _ _ ?_)
  refine WC.seq (fun K5 hK6 => ?_)
  refine WC.seq (fun K7 hK8 => ?_)
  refine WC.region ?_
  refine WL.runs 1 [(8, .int .i64 0)] (fun _ => by kernel_rfl) ?_
  refine WL.done rfl ?_
  refine QX.then_normal (hK8 _ _ ?_)
  refine WC.block ?_
  have hC9 := hC.addNil
  refine WC.loop (fun m_ E_ w_ => ∃ (k : Nat) (A5 : Option Addr) (n5 c5 : Nat), m_ = xs.length - k ∧ E_ = [(0, .slice A xs.length c), (1, .int .u32 dip), (2, .int .i64 now), (6, .slice none 0 0), (7, .slice A5 n5 c5), (8, .int .i64 (k : Int))] ∧ Cx w [] w_ [] [blk (.slice A5 n5 c5)] ∧ World.ownsRow w_ 0 27 4 (.slice A5 n5 c5) n5 (((xs.take k).filter (ofP dip now)).flatMap encL) ∧ (k ≤ xs.length ∧ n5 = ((xs.take k).filter (ofP dip now)).length)) ⟨_, _, ⟨0, none, 0, 0, rfl, rfl, hC9, own_nil _ _ _ _, Nat.zero_le _, rfl⟩, sub_of ⟨rfl, rfl, rfl, rfl, rfl, rfl, trivial⟩⟩ (fun m13 E_ w14 K10 hK11 hI12 => ?_)
  obtain ⟨k, A5, n5, c5, rfl, rfl, hC15, hrow, hk, hn5⟩ := hI12
  have hfl := filter_take_le (ofP dip now) xs k
  refine WC.seq (fun K16 hK17 => ?_)
  refine WC.seq (fun K18 hK19 => ?_)
  refine WC.region ?_
  refine WL.runs 4 [(12, .bool (decide ((k : Int) < (xs.length : Int)))), (11, .int .i64 (xs.length : Int)), (10, .slice A xs.length c), (9, .int .i64 (k : Int))] (fun _ => by kernel_rfl) ?_
  refine WL.done rfl ?_
  refine QX.then_normal (hK19 _ _ ?_)
  refine WC.test_at 12 (decide ((k : Int) < (xs.length : Int))) rfl (fun t20b => ?_) (fun t20b => ?_)
  · -- (k : Int) < (xs.length : Int): true
    have t20 : (k : Int) < (xs.length : Int) := by have q_ := of_decide_eq_true t20b; omega
    refine WC.cond_true rfl ?_
    refine WC.skip ?_
    refine QX.then_normal (hK17 _ _ ?_)
    refine WC.seq (fun K21 hK22 => ?_)
    refine WC.block ?_
    refine WC.seq (fun K23 hK24 => ?_)
    refine WC.region ?_
    refine WL.runs 2 [(16, .int .i64 (k : Int)), (15, .slice A xs.length c)] (fun _ => by kernel_rfl) ?_
    obtain ⟨e25, he26⟩ := get_some (xs := xs) (i := k) (by omega)
    obtain ⟨b27, o29, hA28, hc30⟩ := hr.at_ _ _ he26
    have hok_e25 := hwf _ (List.mem_of_getElem? he26)
    have hokk_ := hok_e25
    obtain ⟨_, _, _, _, hfl_e25, hfh_e25, _⟩ := hokk_
    refine WL.index A xs.length c 17 .i64 (k : Int) b27 o29 k 4 (by kernel_rfl) hA28 (by omega) (by omega) (o29 + k * 4) (by first | (simp; done) | omega) ?_
    refine WL.runs 1 [(18, .pointer (some ⟨b27, o29 + k * 4 + 2, none⟩))] (fun _ => by kernel_rfl) ?_
    refine WL.load 23 (.pointer (some ⟨b27, o29 + k * 4 + 2, none⟩)) (.int .u32 e25.dip) 19 (by kernel_rfl) (run_load1 rfl (by simpa [Nat.add_assoc] using hC15.fr.cell (hc30 2 _ rfl) (by simp))) ?_
    refine WL.runs 3 [(22, .bool (e25.dip == dip)), (21, .bool (e25.dip == dip)), (20, .int .u32 dip)] (fun _ => by kernel_rfl) ?_
    refine WL.test_at 22 (e25.dip == dip) rfl (fun t31b => ?_) (fun t31b => ?_)
    · -- e25.dip = dip: true
      have t31 : e25.dip = dip := by simpa using t31b
      refine WL.runs 2 [(24, .int .i64 (k : Int)), (23, .slice A xs.length c)] (fun _ => by kernel_rfl) ?_
      refine WL.index A xs.length c 25 .i64 (k : Int) b27 o29 k 4 (by kernel_rfl) hA28 (by omega) (by omega) (o29 + k * 4) (by first | (simp; done) | omega) ?_
      refine WL.runs 1 [(26, .pointer (some ⟨b27, o29 + k * 4 + 3, none⟩))] (fun _ => by kernel_rfl) ?_
      refine WL.load 3 (.pointer (some ⟨b27, o29 + k * 4 + 3, none⟩)) (.int .i64 e25.exp) 27 (by kernel_rfl) (run_load1 rfl (by simpa [Nat.add_assoc] using hC15.fr.cell (hc30 3 _ rfl) (by simp))) ?_
      refine WL.runs 3 [(30, .bool (decide (e25.exp ≥ now))), (29, .bool (decide (e25.exp ≥ now))), (28, .int .i64 now)] (fun _ => by kernel_rfl) ?_
      refine WL.done rfl ?_
      refine QX.then_normal (hK24 _ _ ?_)
      refine WC.test_at 30 (decide (e25.exp ≥ now)) rfl (fun t36b => ?_) (fun t36b => ?_)
      · -- e25.exp ≥ now: true
        have t36 : now ≤ e25.exp := by have q_ := of_decide_eq_true t36b; omega
        refine WC.cond_true rfl ?_
        refine WC.region ?_
        refine WL.runs 3 [(33, .int .i64 (k : Int)), (32, .slice A xs.length c), (31, .slice A5 n5 c5)] (fun _ => by kernel_rfl) ?_
        refine WL.index A xs.length c 34 .i64 (k : Int) b27 o29 k 4 (by kernel_rfl) hA28 (by omega) (by omega) (o29 + k * 4) (by first | (simp; done) | omega) ?_
        refine WL.load 27 (.pointer (some ⟨b27, o29 + k * 4, none⟩)) (.agg #[.int .u32 e25.vip, .int .i64 e25.first, .int .u32 e25.dip, .int .i64 e25.exp]) 35 (by kernel_rfl) (run_rdN (l := [.int .u32 e25.vip, .int .i64 e25.first, .int .u32 e25.dip, .int .i64 e25.exp]) rfl rfl (fun j u hu => by have hq_ := hC15.fr.cell (hc30 j u hu) (by simp); simpa [Nat.add_assoc] using hq_)) ?_
        refine WL.newM hC15 (fun b => .slice (some ⟨b, 0, none⟩) 1 1) (.cells #[.int .u32 e25.vip, .int .i64 e25.first, .int .u32 e25.dip, .int .i64 e25.exp] 27) 36 (fun _ => by kernel_rfl) (fun g41 w42 hb45 hF43 hC44 => ?_)
        have ho46 := own_fr hrow hF43 (by simp)
        obtain ⟨v47, w48, hr49, ho50, hF51, hC52, hnil53, hsub54⟩ := app_run Tryd.prog hC44 0 (v := .slice A5 n5 c5) rfl 25 25 27 4 32 n5 1 1 (some ⟨g41, 0, none⟩) rfl ho46 [.int .u32 e25.vip, .int .i64 e25.first, .int .u32 e25.dip, .int .i64 e25.exp] rfl (srcOk.blk 1 (hC44.get 0 rfl)) rfl (by simp only [maxLen]; omega) (by omega)
        have ho58 := own_snoc (enc := encL) (ys := ((xs.take k).filter (ofP dip now))) e25 ho50
        obtain ⟨A55, c56, rfl, hle57⟩ := own_form ho58
        refine WL.sem (Builtin.append_ #[25, 25] 25 #[.slice A5 n5 c5, .slice (some ⟨g41, 0, none⟩) 1 1]) 37 (.slice A55 (n5 + 1) c56) (by kernel_rfl) hr49 ?_
        refine WL.runs 1 [(7, .slice A55 (n5 + 1) c56)] (fun _ => by kernel_rfl) ?_
        refine WL.done rfl ?_
        refine QX.block_normal ?_
        refine QX.then_normal (hK22 _ _ ?_)
        refine WC.region ?_
        refine WL.runs 2 [(14, .int .i64 (IntKind.i64.wrap ((k : Int) + 1))), (13, .int .i64 (k : Int))] (fun _ => by kernel_rfl) ?_
        refine WL.recast (show (.int .i64 (IntKind.i64.wrap ((k : Int) + 1)) : Value) = .int .i64 ((k : Int) + 1) from by rw [wrap_in_i64 ((k : Int) + 1) (by omega) (by omega)]) ?_
        refine WL.runs 1 [(8, .int .i64 ((k : Int) + 1))] (fun _ => by kernel_rfl) ?_
        refine WL.done rfl ?_
        refine QX.then_normal ?_
        have hC59 := hC52.pick [] [0] rfl rfl
        refine fun a_ ha_ => hK11 _ _ _ ?_ ⟨k + 1, A55, n5 + 1, c56, rfl, rfl, hC59, by rw [take_filter_snoc (ofP dip now) he26, if_pos (by simp [ofP, pruneP, livesB, t20, t20b, t31, t31b, t36, t36b])]; exact ho58, by omega, by rw [take_filter_snoc (ofP dip now) he26]; simp [ofP, pruneP, livesB, t20, t20b, t31, t31b, t36, t36b, hn5]⟩ a_ (ha_.weaken (sub_of ⟨rfl, rfl, rfl, rfl, rfl, rfl, trivial⟩))
        omega
      · -- e25.exp ≥ now: false
        have t36 : e25.exp < now := by have q_ := of_decide_eq_false t36b; omega
        refine WC.cond_false rfl ?_
        refine WC.skip ?_
        refine QX.block_normal ?_
        refine QX.then_normal (hK22 _ _ ?_)
        refine WC.region ?_
        refine WL.runs 2 [(14, .int .i64 (IntKind.i64.wrap ((k : Int) + 1))), (13, .int .i64 (k : Int))] (fun _ => by kernel_rfl) ?_
        refine WL.recast (show (.int .i64 (IntKind.i64.wrap ((k : Int) + 1)) : Value) = .int .i64 ((k : Int) + 1) from by rw [wrap_in_i64 ((k : Int) + 1) (by omega) (by omega)]) ?_
        refine WL.runs 1 [(8, .int .i64 ((k : Int) + 1))] (fun _ => by kernel_rfl) ?_
        refine WL.done rfl ?_
        refine QX.then_normal ?_
        have hC60 := hC15.pick [] [0] rfl rfl
        refine fun a_ ha_ => hK11 _ _ _ ?_ ⟨k + 1, A5, n5, c5, rfl, rfl, hC60, by rw [take_filter_snoc (ofP dip now) he26, if_neg (by simp [ofP, pruneP, livesB, t20, t20b, t31, t31b, t36, t36b]), List.append_nil]; exact hrow, by omega, by rw [take_filter_snoc (ofP dip now) he26]; simp [ofP, pruneP, livesB, t20, t20b, t31, t31b, t36, t36b, hn5]⟩ a_ (ha_.weaken (sub_of ⟨rfl, rfl, rfl, rfl, rfl, rfl, trivial⟩))
        omega
    · -- e25.dip = dip: false
      have t31 : ¬ (e25.dip = dip) := by simpa using t31b
      refine WL.runs 8 [(30, .bool false), (29, undef), (28, undef), (27, undef), (26, undef), (25, undef), (24, undef), (23, undef)] (fun _ => by kernel_rfl) ?_
      refine WL.done rfl ?_
      refine QX.then_normal (hK24 _ _ ?_)
      refine WC.cond_false rfl ?_
      refine WC.skip ?_
      refine QX.block_normal ?_
      refine QX.then_normal (hK22 _ _ ?_)
      refine WC.region ?_
      refine WL.runs 2 [(14, .int .i64 (IntKind.i64.wrap ((k : Int) + 1))), (13, .int .i64 (k : Int))] (fun _ => by kernel_rfl) ?_
      refine WL.recast (show (.int .i64 (IntKind.i64.wrap ((k : Int) + 1)) : Value) = .int .i64 ((k : Int) + 1) from by rw [wrap_in_i64 ((k : Int) + 1) (by omega) (by omega)]) ?_
      refine WL.runs 1 [(8, .int .i64 ((k : Int) + 1))] (fun _ => by kernel_rfl) ?_
      refine WL.done rfl ?_
      refine QX.then_normal ?_
      have hC61 := hC15.pick [] [0] rfl rfl
      refine fun a_ ha_ => hK11 _ _ _ ?_ ⟨k + 1, A5, n5, c5, rfl, rfl, hC61, by rw [take_filter_snoc (ofP dip now) he26, if_neg (by simp [ofP, pruneP, livesB, t20, t20b, t31, t31b]), List.append_nil]; exact hrow, by omega, by rw [take_filter_snoc (ofP dip now) he26]; simp [ofP, pruneP, livesB, t20, t20b, t31, t31b, hn5]⟩ a_ (ha_.weaken (sub_of ⟨rfl, rfl, rfl, rfl, rfl, rfl, trivial⟩))
      omega
  · -- (k : Int) < (xs.length : Int): false
    have t20 : (xs.length : Int) ≤ (k : Int) := by have q_ := of_decide_eq_false t20b; omega
    refine WC.cond_false rfl ?_
    refine WC.exit ?_
    refine QX.then_exit ?_
    refine QX.then_exit ?_
    refine QX.block_hit ?_
    refine QX.then_normal (hK6 _ _ ?_)
    refine WC.seq (fun K62 hK63 => ?_)
    refine WC.region ?_
    refine WL.runs 2 [(6, .slice A5 n5 c5), (38, .slice A5 n5 c5)] (fun _ => by kernel_rfl) ?_
    refine WL.done rfl ?_
    refine QX.then_normal (hK63 _ _ ?_)
    refine WC.ret ?_
    refine (hret _ _ _ rfl ?_).1
    clear hN hret hret' hK63 hK19 hK17 hK8 hK6 hK4 hK2
    have hk2 : xs.take k = xs := List.take_of_length_le (by omega)
    have ho_ := hrow
    rw [hk2] at ho_ hn5
    subst hn5
    exact ⟨_, rfl, hC15.fr, own_base ho_ (hC15.geF 0 rfl)⟩

theorem Prune2_ct (A : Option Addr) (c : Nat) (xs : List Lease) (now : Int) (w : World) (hr : Rd w 4 encL A xs) (hwf : ∀ l ∈ xs, okL l) (hm : xs.length < 2 ^ 40) : Calls Tryd.prog 19 #[.slice A xs.length c, .int .i64 now] w fun e w' => ∃ v, e = .returned v ∧ Fr w w' [] ∧ w'.ownsRow w.heap.size 27 4 v (xs.filter (pruneP now)).length ((xs.filter (pruneP now)).flatMap encL) := by
  refine enterD (n := 28) Tryd.func19 rfl rfl (Nat.le_of_ble_eq_true rfl) ?_
  intro Q0 hN hret hret'
  have hC := Cx.start w
  refine WC.seq (fun K1 hK2 => ?_)
  refine WC.region ?_
  refine WL.runs 1 [(4, .slice none 0 0)] (fun _ => by kernel_rfl) ?_
  refine WL.done rfl ?_
  refine QX.then_normal (hK2 _ _ ?_)
  refine WC.seq (fun K3 hK4 => ?_)
  refine WC.region ?_
  refine WL.runs 1 [(5, .slice none 0 0)] (fun _ => by kernel_rfl) ?_
  refine WL.done rfl ?_
  refine QX.then_normal (hK4 _ _ ?_)
  refine WC.seq (fun K5 hK6 => ?_)
  refine WC.seq (fun K7 hK8 => ?_)
  refine WC.region ?_
  refine WL.runs 1 [(6, .int .i64 0)] (fun _ => by kernel_rfl) ?_
  refine WL.done rfl ?_
  refine QX.then_normal (hK8 _ _ ?_)
  refine WC.block ?_
  have hC9 := hC.addNil
  refine WC.loop (fun m_ E_ w_ => ∃ (k : Nat) (A5 : Option Addr) (n5 c5 : Nat), m_ = xs.length - k ∧ E_ = [(0, .slice A xs.length c), (1, .int .i64 now), (4, .slice none 0 0), (5, .slice A5 n5 c5), (6, .int .i64 (k : Int))] ∧ Cx w [] w_ [] [blk (.slice A5 n5 c5)] ∧ World.ownsRow w_ 0 27 4 (.slice A5 n5 c5) n5 (((xs.take k).filter (pruneP now)).flatMap encL) ∧ (k ≤ xs.length ∧ n5 = ((xs.take k).filter (pruneP now)).length)) ⟨_, _, ⟨0, none, 0, 0, rfl, rfl, hC9, own_nil _ _ _ _, Nat.zero_le _, rfl⟩, sub_of ⟨rfl, rfl, rfl, rfl, rfl, trivial⟩⟩ (fun m13 E_ w14 K10 hK11 hI12 => ?_)
  obtain ⟨k, A5, n5, c5, rfl, rfl, hC15, hrow, hk, hn5⟩ := hI12
  have hfl := filter_take_le (pruneP now) xs k
  refine WC.seq (fun K16 hK17 => ?_)
  refine WC.seq (fun K18 hK19 => ?_)
  refine WC.region ?_
  refine WL.runs 4 [(10, .bool (decide ((k : Int) < (xs.length : Int)))), (9, .int .i64 (xs.length : Int)), (8, .slice A xs.length c), (7, .int .i64 (k : Int))] (fun _ => by kernel_rfl) ?_
  refine WL.done rfl ?_
  refine QX.then_normal (hK19 _ _ ?_)
  refine WC.test_at 10 (decide ((k : Int) < (xs.length : Int))) rfl (fun t20b => ?_) (fun t20b => ?_)
  · -- (k : Int) < (xs.length : Int): true
    have t20 : (k : Int) < (xs.length : Int) := by have q_ := of_decide_eq_true t20b; omega
    refine WC.cond_true rfl ?_
    refine WC.skip ?_
    refine QX.then_normal (hK17 _ _ ?_)
    refine WC.seq (fun K21 hK22 => ?_)
    refine WC.block ?_
    refine WC.seq (fun K23 hK24 => ?_)
    refine WC.region ?_
    refine WL.runs 2 [(14, .int .i64 (k : Int)), (13, .slice A xs.length c)] (fun _ => by kernel_rfl) ?_
    obtain ⟨e25, he26⟩ := get_some (xs := xs) (i := k) (by omega)
    obtain ⟨b27, o29, hA28, hc30⟩ := hr.at_ _ _ he26
    have hok_e25 := hwf _ (List.mem_of_getElem? he26)
    have hokk_ := hok_e25
    obtain ⟨_, _, _, _, hfl_e25, hfh_e25, _⟩ := hokk_
    refine WL.index A xs.length c 15 .i64 (k : Int) b27 o29 k 4 (by kernel_rfl) hA28 (by omega) (by omega) (o29 + k * 4) (by first | (simp; done) | omega) ?_
    refine WL.runs 1 [(16, .pointer (some ⟨b27, o29 + k * 4 + 3, none⟩))] (fun _ => by kernel_rfl) ?_
    refine WL.load 3 (.pointer (some ⟨b27, o29 + k * 4 + 3, none⟩)) (.int .i64 e25.exp) 17 (by kernel_rfl) (run_load1 rfl (by simpa [Nat.add_assoc] using hC15.fr.cell (hc30 3 _ rfl) (by simp))) ?_
    refine WL.runs 2 [(19, .bool (decide (e25.exp ≥ now))), (18, .int .i64 now)] (fun _ => by kernel_rfl) ?_
    refine WL.done rfl ?_
    refine QX.then_normal (hK24 _ _ ?_)
    refine WC.test_at 19 (decide (e25.exp ≥ now)) rfl (fun t31b => ?_) (fun t31b => ?_)
    · -- e25.exp ≥ now: true
      have t31 : now ≤ e25.exp := by have q_ := of_decide_eq_true t31b; omega
      refine WC.cond_true rfl ?_
      refine WC.region ?_
      refine WL.runs 3 [(22, .int .i64 (k : Int)), (21, .slice A xs.length c), (20, .slice A5 n5 c5)] (fun _ => by kernel_rfl) ?_
      refine WL.index A xs.length c 23 .i64 (k : Int) b27 o29 k 4 (by kernel_rfl) hA28 (by omega) (by omega) (o29 + k * 4) (by first | (simp; done) | omega) ?_
      refine WL.load 27 (.pointer (some ⟨b27, o29 + k * 4, none⟩)) (.agg #[.int .u32 e25.vip, .int .i64 e25.first, .int .u32 e25.dip, .int .i64 e25.exp]) 24 (by kernel_rfl) (run_rdN (l := [.int .u32 e25.vip, .int .i64 e25.first, .int .u32 e25.dip, .int .i64 e25.exp]) rfl rfl (fun j u hu => by have hq_ := hC15.fr.cell (hc30 j u hu) (by simp); simpa [Nat.add_assoc] using hq_)) ?_
      refine WL.newM hC15 (fun b => .slice (some ⟨b, 0, none⟩) 1 1) (.cells #[.int .u32 e25.vip, .int .i64 e25.first, .int .u32 e25.dip, .int .i64 e25.exp] 27) 25 (fun _ => by kernel_rfl) (fun g36 w37 hb40 hF38 hC39 => ?_)
      have ho41 := own_fr hrow hF38 (by simp)
      obtain ⟨v42, w43, hr44, ho45, hF46, hC47, hnil48, hsub49⟩ := app_run Tryd.prog hC39 0 (v := .slice A5 n5 c5) rfl 25 25 27 4 32 n5 1 1 (some ⟨g36, 0, none⟩) rfl ho41 [.int .u32 e25.vip, .int .i64 e25.first, .int .u32 e25.dip, .int .i64 e25.exp] rfl (srcOk.blk 1 (hC39.get 0 rfl)) rfl (by simp only [maxLen]; omega) (by omega)
      have ho53 := own_snoc (enc := encL) (ys := ((xs.take k).filter (pruneP now))) e25 ho45
      obtain ⟨A50, c51, rfl, hle52⟩ := own_form ho53
      refine WL.sem (Builtin.append_ #[25, 25] 25 #[.slice A5 n5 c5, .slice (some ⟨g36, 0, none⟩) 1 1]) 26 (.slice A50 (n5 + 1) c51) (by kernel_rfl) hr44 ?_
      refine WL.runs 1 [(5, .slice A50 (n5 + 1) c51)] (fun _ => by kernel_rfl) ?_
      refine WL.done rfl ?_
      refine QX.block_normal ?_
      refine QX.then_normal (hK22 _ _ ?_)
      refine WC.region ?_
      refine WL.runs 2 [(12, .int .i64 (IntKind.i64.wrap ((k : Int) + 1))), (11, .int .i64 (k : Int))] (fun _ => by kernel_rfl) ?_
      refine WL.recast (show (.int .i64 (IntKind.i64.wrap ((k : Int) + 1)) : Value) = .int .i64 ((k : Int) + 1) from by rw [wrap_in_i64 ((k : Int) + 1) (by omega) (by omega)]) ?_
      refine WL.runs 1 [(6, .int .i64 ((k : Int) + 1))] (fun _ => by kernel_rfl) ?_
      refine WL.done rfl ?_
      refine QX.then_normal ?_
      have hC54 := hC47.pick [] [0] rfl rfl
      refine fun a_ ha_ => hK11 _ _ _ ?_ ⟨k + 1, A50, n5 + 1, c51, rfl, rfl, hC54, by rw [take_filter_snoc (pruneP now) he26, if_pos (by simp [ofP, pruneP, livesB, t20, t20b, t31, t31b])]; exact ho53, by omega, by rw [take_filter_snoc (pruneP now) he26]; simp [ofP, pruneP, livesB, t20, t20b, t31, t31b, hn5]⟩ a_ (ha_.weaken (sub_of ⟨rfl, rfl, rfl, rfl, rfl, trivial⟩))
      omega
    · -- e25.exp ≥ now: false
      have t31 : e25.exp < now := by have q_ := of_decide_eq_false t31b; omega
      refine WC.cond_false rfl ?_
      refine WC.skip ?_
      refine QX.block_normal ?_
      refine QX.then_normal (hK22 _ _ ?_)
      refine WC.region ?_
      refine WL.runs 2 [(12, .int .i64 (IntKind.i64.wrap ((k : Int) + 1))), (11, .int .i64 (k : Int))] (fun _ => by kernel_rfl) ?_
      refine WL.recast (show (.int .i64 (IntKind.i64.wrap ((k : Int) + 1)) : Value) = .int .i64 ((k : Int) + 1) from by rw [wrap_in_i64 ((k : Int) + 1) (by omega) (by omega)]) ?_
      refine WL.runs 1 [(6, .int .i64 ((k : Int) + 1))] (fun _ => by kernel_rfl) ?_
      refine WL.done rfl ?_
      refine QX.then_normal ?_
      have hC55 := hC15.pick [] [0] rfl rfl
      refine fun a_ ha_ => hK11 _ _ _ ?_ ⟨k + 1, A5, n5, c5, rfl, rfl, hC55, by rw [take_filter_snoc (pruneP now) he26, if_neg (by simp [ofP, pruneP, livesB, t20, t20b, t31, t31b]), List.append_nil]; exact hrow, by omega, by rw [take_filter_snoc (pruneP now) he26]; simp [ofP, pruneP, livesB, t20, t20b, t31, t31b, hn5]⟩ a_ (ha_.weaken (sub_of ⟨rfl, rfl, rfl, rfl, rfl, trivial⟩))
      omega
  · -- (k : Int) < (xs.length : Int): false
    have t20 : (xs.length : Int) ≤ (k : Int) := by have q_ := of_decide_eq_false t20b; omega
    refine WC.cond_false rfl ?_
    refine WC.exit ?_
    refine QX.then_exit ?_
    refine QX.then_exit ?_
    refine QX.block_hit ?_
    refine QX.then_normal (hK6 _ _ ?_)
    refine WC.seq (fun K56 hK57 => ?_)
    refine WC.region ?_
    refine WL.runs 2 [(4, .slice A5 n5 c5), (27, .slice A5 n5 c5)] (fun _ => by kernel_rfl) ?_
    refine WL.done rfl ?_
    refine QX.then_normal (hK57 _ _ ?_)
    refine WC.ret ?_
    refine (hret _ _ _ rfl ?_).1
    clear hN hret hret' hK57 hK19 hK17 hK8 hK6 hK4 hK2
    have hk2 : xs.take k = xs := List.take_of_length_le (by omega)
    have ho_ := hrow
    rw [hk2] at ho_ hn5
    subst hn5
    exact ⟨_, rfl, hC15.fr, own_base ho_ (hC15.geF 0 rfl)⟩

theorem Same2_ct (A : Option Addr) (c : Nat) (xs : List Lease) (B : Option Addr) (c2 : Nat) (ys : List Lease) (w : World) (hr : Rd w 4 encL A xs) (hr2 : Rd w 4 encL B ys) (hm : xs.length < 2 ^ 41) : Calls Tryd.prog 15 #[.slice A xs.length c, .slice B ys.length c2] w fun e w' => e = .returned (.bool (decide (xs = ys))) ∧ Fr w w' [] := by
  refine enterD (n := 26) Tryd.func15 rfl rfl (Nat.le_of_ble_eq_true rfl) ?_
  intro Q0 hN hret hret'
  have hC := Cx.start w
  refine WC.seq (fun K1 hK2 => ?_)
  refine WC.region ?_
  refine WL.runs 1 [(4, .bool false)] (fun _ => by kernel_rfl) ?_
  refine WL.done rfl ?_
  refine QX.then_normal (hK2 _ _ ?_)
  refine WC.seq (fun K3 hK4 => ?_)
  refine WC.seq (fun K5 hK6 => ?_)
  refine WC.region ?_
  refine WL.runs 5 [(10, .bool ((xs.length : Int) != (ys.length : Int))), (9, .int .i64 (ys.length : Int)), (8, .slice B ys.length c2), (7, .int .i64 (xs.length : Int)), (6, .slice A xs.length c)] (fun _ => by kernel_rfl) ?_
  refine WL.done rfl ?_
  refine QX.then_normal (hK6 _ _ ?_)
  refine WC.test_at 10 ((xs.length : Int) != (ys.length : Int)) rfl (fun t7b => ?_) (fun t7b => ?_)
  · -- (xs.length : Int) ≠ (ys.length : Int): true
    have t7 : (xs.length : Int) ≠ (ys.length : Int) := by simpa using t7b
    refine WC.cond_true rfl ?_
    refine WC.seq (fun K8 hK9 => ?_)
    refine WC.region ?_
    refine WL.runs 1 [(4, .bool false)] (fun _ => by kernel_rfl) ?_
    refine WL.done rfl ?_
    refine QX.then_normal (hK9 _ _ ?_)
    refine WC.ret ?_
    refine QX.then_ret ?_
    refine (hret _ _ _ rfl ?_).1
    clear hN hret hret' hK9 hK6 hK4 hK2
    exact ⟨by rw [decide_eq_false (fun e_ => by have := congrArg List.length e_; omega)]; rfl, hC.fr⟩
  · -- (xs.length : Int) ≠ (ys.length : Int): false
    have t7 : (xs.length : Int) = (ys.length : Int) := by simpa using t7b
    refine WC.cond_false rfl ?_
    refine WC.skip ?_
    refine QX.then_normal (hK4 _ _ ?_)
    refine WC.seq (fun K10 hK11 => ?_)
    refine WC.seq (fun K12 hK13 => ?_)
    refine WC.region ?_
    refine WL.runs 1 [(5, .int .i64 0)] (fun _ => by kernel_rfl) ?_
    refine WL.done rfl ?_
    refine QX.then_normal (hK13 _ _ ?_)
    refine WC.block ?_
    refine WC.loop (fun m_ E_ w_ => ∃ (k : Nat), m_ = xs.length - k ∧ E_ = [(0, .slice A xs.length c), (1, .slice B ys.length c2), (5, .int .i64 (k : Int)), (6, .slice A xs.length c), (7, .int .i64 (xs.length : Int)), (8, .slice B ys.length c2), (9, .int .i64 (ys.length : Int)), (10, .bool false)] ∧ Cx w [] w_ [] [] ∧ (k ≤ xs.length ∧ xs.take k = ys.take k)) ⟨_, _, ⟨0, rfl, rfl, hC, Nat.zero_le _, rfl⟩, sub_of ⟨rfl, rfl, rfl, rfl, rfl, rfl, rfl, rfl, trivial⟩⟩ (fun m17 E_ w18 K14 hK15 hI16 => ?_)
    obtain ⟨k, rfl, rfl, hC19, hk, hsame⟩ := hI16
    refine WC.seq (fun K20 hK21 => ?_)
    refine WC.seq (fun K22 hK23 => ?_)
    refine WC.region ?_
    refine WL.runs 4 [(14, .bool (decide ((k : Int) < (xs.length : Int)))), (13, .int .i64 (xs.length : Int)), (12, .slice A xs.length c), (11, .int .i64 (k : Int))] (fun _ => by kernel_rfl) ?_
    refine WL.done rfl ?_
    refine QX.then_normal (hK23 _ _ ?_)
    refine WC.test_at 14 (decide ((k : Int) < (xs.length : Int))) rfl (fun t24b => ?_) (fun t24b => ?_)
    · -- (k : Int) < (xs.length : Int): true
      have t24 : (k : Int) < (xs.length : Int) := by have q_ := of_decide_eq_true t24b; omega
      refine WC.cond_true rfl ?_
      refine WC.skip ?_
      refine QX.then_normal (hK21 _ _ ?_)
      refine WC.seq (fun K25 hK26 => ?_)
      refine WC.block ?_
      refine WC.seq (fun K27 hK28 => ?_)
      refine WC.drawC hC19 [] (by kernel_rfl) (fun w29 hF30 hC31 hS32 => ?_)
      refine WD.pure (NoPanic.then (NoPanic.block (NoPanic.then (NoPanic.then (NoPanic.block (NoPanic.then hN)))))) 0 17 (.slice A xs.length c) (by kernel_rfl) (fun _ => by kernel_rfl) hS32 ?_
      refine WD.pure (NoPanic.then (NoPanic.block (NoPanic.then (NoPanic.then (NoPanic.block (NoPanic.then hN)))))) 1 18 (.int .i64 (k : Int)) (by kernel_rfl) (fun _ => by kernel_rfl) hS32 ?_
      obtain ⟨e33, he34⟩ := get_some (xs := xs) (i := k) (by omega)
      obtain ⟨b35, o37, hA36, hc38⟩ := hr.at_ _ _ he34
      refine WD.index (NoPanic.then (NoPanic.block (NoPanic.then (NoPanic.then (NoPanic.block (NoPanic.then hN)))))) 2 A xs.length c 19 .i64 (k : Int) b35 o37 k 4 (by kernel_rfl) (by kernel_rfl) hA36 (by omega) (by omega) (o37 + k * 4) (by first | (simp; done) | omega) hS32 ?_
      refine WD.pure (NoPanic.then (NoPanic.block (NoPanic.then (NoPanic.then (NoPanic.block (NoPanic.then hN)))))) 4 21 (.slice B ys.length c2) (by kernel_rfl) (fun _ => by kernel_rfl) hS32 ?_
      refine WD.pure (NoPanic.then (NoPanic.block (NoPanic.then (NoPanic.then (NoPanic.block (NoPanic.then hN)))))) 5 22 (.int .i64 (k : Int)) (by kernel_rfl) (fun _ => by kernel_rfl) hS32 ?_
      obtain ⟨e39, he40⟩ := get_some (xs := ys) (i := k) (by omega)
      obtain ⟨b41, o43, hA42, hc44⟩ := hr2.at_ _ _ he40
      refine WD.index (NoPanic.then (NoPanic.block (NoPanic.then (NoPanic.then (NoPanic.block (NoPanic.then hN)))))) 6 B ys.length c2 23 .i64 (k : Int) b41 o43 k 4 (by kernel_rfl) (by kernel_rfl) hA42 (by omega) (by omega) (o43 + k * 4) (by first | (simp; done) | omega) hS32 ?_
      refine WD.load (NoPanic.then (NoPanic.block (NoPanic.then (NoPanic.then (NoPanic.block (NoPanic.then hN)))))) 3 27 (.pointer (some ⟨b35, o37 + k * 4, none⟩)) (.agg #[.int .u32 e33.vip, .int .i64 e33.first, .int .u32 e33.dip, .int .i64 e33.exp]) 20 (by kernel_rfl) (by kernel_rfl) (fun _ hS_ => run_rdN (l := [.int .u32 e33.vip, .int .i64 e33.first, .int .u32 e33.dip, .int .i64 e33.exp]) rfl rfl (fun j u hu => by have hq_ := Fr.cell hS_ (hC31.fr.cell (hc38 j u hu) (by simp)) (by simp); simpa [Nat.add_assoc] using hq_)) hS32 ?_
      refine WD.load (NoPanic.then (NoPanic.block (NoPanic.then (NoPanic.then (NoPanic.block (NoPanic.then hN)))))) 7 27 (.pointer (some ⟨b41, o43 + k * 4, none⟩)) (.agg #[.int .u32 e39.vip, .int .i64 e39.first, .int .u32 e39.dip, .int .i64 e39.exp]) 24 (by kernel_rfl) (by kernel_rfl) (fun _ hS_ => run_rdN (l := [.int .u32 e39.vip, .int .i64 e39.first, .int .u32 e39.dip, .int .i64 e39.exp]) rfl rfl (fun j u hu => by have hq_ := Fr.cell hS_ (hC31.fr.cell (hc44 j u hu) (by simp)) (by simp); simpa [Nat.add_assoc] using hq_)) hS32 ?_
      have hr45 : ∀ w_, Sem.run Tryd.prog (do eqGuard .neq 27 (Operand.tmp 20) (Operand.tmp 24) (.agg #[.int .u32 e33.vip, .int .i64 e33.first, .int .u32 e33.dip, .int .i64 e33.exp]) (.agg #[.int .u32 e39.vip, .int .i64 e39.first, .int .u32 e39.dip, .int .i64 e39.exp]); binOp .neq 27 (.agg #[.int .u32 e33.vip, .int .i64 e33.first, .int .u32 e33.dip, .int .i64 e33.exp]) (.agg #[.int .u32 e39.vip, .int .i64 e39.first, .int .u32 e39.dip, .int .i64 e39.exp])) w_ = .ok (.bool (!(e33.vip == e39.vip && (e33.first == e39.first && (e33.dip == e39.dip && (e33.exp == e39.exp && true)))))) w_ := fun w_ => (run_neq_S (by kernel_rfl))
      refine WD.semP (NoPanic.then (NoPanic.block (NoPanic.then (NoPanic.then (NoPanic.block (NoPanic.then hN)))))) 8 (do eqGuard .neq 27 (Operand.tmp 20) (Operand.tmp 24) (.agg #[.int .u32 e33.vip, .int .i64 e33.first, .int .u32 e33.dip, .int .i64 e33.exp]) (.agg #[.int .u32 e39.vip, .int .i64 e39.first, .int .u32 e39.dip, .int .i64 e39.exp]); binOp .neq 27 (.agg #[.int .u32 e33.vip, .int .i64 e33.first, .int .u32 e33.dip, .int .i64 e33.exp]) (.agg #[.int .u32 e39.vip, .int .i64 e39.first, .int .u32 e39.dip, .int .i64 e39.exp])) 25 (.bool (!(e33.vip == e39.vip && (e33.first == e39.first && (e33.dip == e39.dip && (e33.exp == e39.exp && true)))))) (by kernel_rfl) (by kernel_rfl) (fun _ _ => hr45 _) hS32 ?_
      refine WD.done (by kernel_rfl) ?_
      refine QX.then_normal (hK28 _ _ ?_)
      refine WC.test_at 25 (!(e33.vip == e39.vip && (e33.first == e39.first && (e33.dip == e39.dip && (e33.exp == e39.exp && true))))) rfl (fun t46b => ?_) (fun t46b => ?_)
      · -- (!(e33.vip == e39.vip && (e33.first == e39.first && (e33.dip == e39.dip && (e33.exp == e39.exp && true))))) = true: true
        have t46 : (e33.vip == e39.vip && (e33.first == e39.first && (e33.dip == e39.dip && (e33.exp == e39.exp && true)))) = false := by first | (simpa only [Bool.not_eq_true', Bool.not_eq_false'] using t46b) | simpa using t46b
        have hdiff_ := t46b
        refine WC.cond_true rfl ?_
        refine WC.seq (fun K47 hK48 => ?_)
        refine WC.region ?_
        refine WL.runs 1 [(4, .bool false)] (fun _ => by kernel_rfl) ?_
        refine WL.done rfl ?_
        refine QX.then_normal (hK48 _ _ ?_)
        refine WC.ret ?_
        refine QX.block_ret ?_
        refine QX.then_ret ?_
        refine QX.then_ret ?_
        refine QX.block_ret ?_
        refine QX.then_ret ?_
        refine (hret _ _ _ rfl ?_).1
        clear hN hret hret' hK48 hK28 hK26 hK23 hK21 hK13 hK11 hK6 hK4 hK2
        have hne_ : ¬ xs = ys := fun e_ => by
          rw [e_, he40] at he34
          simp only [Option.some.injEq] at he34
          rw [he34] at hdiff_
          simp at hdiff_
        exact ⟨by rw [decide_eq_false hne_]; rfl, hC31.fr⟩
      · -- (!(e33.vip == e39.vip && (e33.first == e39.first && (e33.dip == e39.dip && (e33.exp == e39.exp && true))))) = true: false
        have t46 : (e33.vip == e39.vip && (e33.first == e39.first && (e33.dip == e39.dip && (e33.exp == e39.exp && true)))) = true := by first | (simpa only [Bool.not_eq_true', Bool.not_eq_false'] using t46b) | simpa using t46b
        have hdiff_ := t46b
        refine WC.cond_false rfl ?_
        refine WC.skip ?_
        refine QX.block_normal ?_
        refine QX.then_normal (hK26 _ _ ?_)
        refine WC.region ?_
        refine WL.runs 2 [(16, .int .i64 (IntKind.i64.wrap ((k : Int) + 1))), (15, .int .i64 (k : Int))] (fun _ => by kernel_rfl) ?_
        refine WL.recast (show (.int .i64 (IntKind.i64.wrap ((k : Int) + 1)) : Value) = .int .i64 ((k : Int) + 1) from by rw [wrap_in_i64 ((k : Int) + 1) (by omega) (by omega)]) ?_
        refine WL.runs 1 [(5, .int .i64 ((k : Int) + 1))] (fun _ => by kernel_rfl) ?_
        refine WL.done rfl ?_
        refine QX.then_normal ?_
        have hC49 := hC31.pick [] [] rfl rfl
        refine fun a_ ha_ => hK15 _ _ _ ?_ ⟨k + 1, rfl, rfl, hC49, by omega, take_same hsame he34 he40 (lease_eq.2 (by simpa using hdiff_))⟩ a_ (ha_.weaken (sub_of ⟨rfl, rfl, rfl, rfl, rfl, rfl, rfl, rfl, trivial⟩))
        omega
    · -- (k : Int) < (xs.length : Int): false
      have t24 : (xs.length : Int) ≤ (k : Int) := by have q_ := of_decide_eq_false t24b; omega
      have hdiff_ := t24b
      refine WC.cond_false rfl ?_
      refine WC.exit ?_
      refine QX.then_exit ?_
      refine QX.then_exit ?_
      refine QX.block_hit ?_
      refine QX.then_normal (hK11 _ _ ?_)
      refine WC.seq (fun K50 hK51 => ?_)
      refine WC.region ?_
      refine WL.runs 1 [(4, .bool true)] (fun _ => by kernel_rfl) ?_
      refine WL.done rfl ?_
      refine QX.then_normal (hK51 _ _ ?_)
      refine WC.ret ?_
      refine (hret _ _ _ rfl ?_).1
      clear hN hret hret' hK51 hK23 hK21 hK13 hK11 hK6 hK4 hK2
      exact ⟨by rw [decide_eq_true (same_end hsame (by omega) (by omega))]; rfl, hC19.fr⟩

theorem with2_ct (A : Option Addr) (c : Nat) (xs : List Lease) (l : Lease) (w : World) (hr : Rd w 4 encL A xs) (hs : sortedL xs) (hm : xs.length < 2 ^ 39) : Calls Tryd.prog 41 #[.slice A xs.length c, .agg #[.int .u32 l.vip, .int .i64 l.first, .int .u32 l.dip, .int .i64 l.exp]] w fun e w' => ∃ v, e = .returned v ∧ Fr w w' [] ∧ w'.ownsRow w.heap.size 27 4 v (insL xs l).length ((insL xs l).flatMap encL) := by
  refine enterD (n := 61) Tryd.func41 rfl rfl (Nat.le_of_ble_eq_true rfl) ?_
  intro Q0 hN hret hret'
  have hC := Cx.start w
  refine WC.seq (fun K1 hK2 => ?_)
  refine WC.region ?_
  refine WL.newM hC (fun b => .pointer (some ⟨b, 0, none⟩)) (.cells #[.int .u32 l.vip, .int .i64 l.first, .int .u32 l.dip, .int .i64 l.exp] 27) 3 (fun _ => by kernel_rfl) (fun g3 w4 hb7 hF5 hC6 => ?_)
  refine WL.runs 1 [(4, .slice none 0 0)] (fun _ => by kernel_rfl) ?_
  refine WL.done rfl ?_
  refine QX.then_normal (hK2 _ _ ?_)
  refine WC.seq (fun K8 hK9 => ?_)
  refine WC.region ?_
  refine WL.runs 1 [(5, .slice none 0 0)] (fun _ => by kernel_rfl) ?_
  refine WL.done rfl ?_
  refine QX.then_normal (hK9 _ _ ?_)
  refine WC.seq (fun K10 hK11 => ?_)
  refine WC.region ?_
  refine WL.runs 1 [(6, .bool false)] (fun _ => by kernel_rfl) ?_
  refine WL.done rfl ?_
  refine QX.then_normal (hK11 _ _ ?_)
  refine WC.seq (fun K12 hK13 => ?_)
  refine WC.seq (fun K14 hK15 => ?_)
  refine WC.region ?_
  refine WL.runs 1 [(7, .int .i64 0)] (fun _ => by kernel_rfl) ?_
  refine WL.done rfl ?_
  refine QX.then_normal (hK15 _ _ ?_)
  refine WC.block ?_
  have hC16 := hC6.addNil
  refine WC.loop (fun m_ E_ w_ => ∃ (k : Nat) (A5 : Option Addr) (n5 c5 : Nat) (O : List Lease) (d : Bool), m_ = xs.length - k ∧ E_ = [(0, .slice A xs.length c), (1, .agg #[.int .u32 l.vip, .int .i64 l.first, .int .u32 l.dip, .int .i64 l.exp]), (3, .pointer (some ⟨g3, 0, none⟩)), (4, .slice none 0 0), (5, .slice A5 n5 c5), (6, .bool d), (7, .int .i64 (k : Int))] ∧ Cx w [] w_ [(g3, .cells #[.int .u32 l.vip, .int .i64 l.first, .int .u32 l.dip, .int .i64 l.exp] 27)] [blk (.slice A5 n5 c5)] ∧ World.ownsRow w_ 0 27 4 (.slice A5 n5 c5) n5 (O.flatMap encL) ∧ (k ≤ xs.length ∧ n5 ≤ 2 * k ∧ (O, d) = (xs.take k).foldl (wstep l) ([], false))) ⟨_, _, ⟨0, none, 0, 0, [], false, rfl, rfl, hC16, own_nil _ _ _ _, Nat.zero_le _, Nat.zero_le _, rfl⟩, sub_of ⟨rfl, rfl, rfl, rfl, rfl, rfl, rfl, trivial⟩⟩ (fun m20 E_ w21 K17 hK18 hI19 => ?_)
  obtain ⟨k, A5, n5, c5, O, d, rfl, rfl, hC22, hrow, hk, hn5, hO⟩ := hI19
  refine WC.seq (fun K23 hK24 => ?_)
  refine WC.seq (fun K25 hK26 => ?_)
  refine WC.region ?_
  refine WL.runs 4 [(11, .bool (decide ((k : Int) < (xs.length : Int)))), (10, .int .i64 (xs.length : Int)), (9, .slice A xs.length c), (8, .int .i64 (k : Int))] (fun _ => by kernel_rfl) ?_
  refine WL.done rfl ?_
  refine QX.then_normal (hK26 _ _ ?_)
  refine WC.test_at 11 (decide ((k : Int) < (xs.length : Int))) rfl (fun t27b => ?_) (fun t27b => ?_)
  · -- (k : Int) < (xs.length : Int): true
    have t27 : (k : Int) < (xs.length : Int) := by have q_ := of_decide_eq_true t27b; omega
    refine WC.cond_true rfl ?_
    refine WC.skip ?_
    refine QX.then_normal (hK24 _ _ ?_)
    refine WC.seq (fun K28 hK29 => ?_)
    refine WC.block ?_
    refine WC.seq (fun K30 hK31 => ?_)
    refine WC.seq (fun K32 hK33 => ?_)
    refine WC.drawC hC22 [] (by kernel_rfl) (fun w34 hF35 hC36 hS37 => ?_)
    have ho38 := own_fr hrow hF35 (by simp)
    refine WD.pure (NoPanic.then (NoPanic.then (NoPanic.block (NoPanic.then (NoPanic.then (NoPanic.block (NoPanic.then hN))))))) 0 14 (.bool d) (by kernel_rfl) (fun _ => by kernel_rfl) hS37 ?_
    refine WD.pure (NoPanic.then (NoPanic.then (NoPanic.block (NoPanic.then (NoPanic.then (NoPanic.block (NoPanic.then hN))))))) 1 15 (.bool !d) (by kernel_rfl) (fun _ => by kernel_rfl) hS37 ?_
    refine WD.pure (NoPanic.then (NoPanic.then (NoPanic.block (NoPanic.then (NoPanic.then (NoPanic.block (NoPanic.then hN))))))) 2 16 (.bool !d) (by kernel_rfl) (fun _ => by kernel_rfl) hS37 ?_
    refine WD.test_at 16 (!d) rfl (fun t39b => ?_) (fun t39b => ?_)
    · -- !d = true: true
      have t39 : d = false := by first | (simpa only [Bool.not_eq_true', Bool.not_eq_false'] using t39b) | simpa using t39b
      refine WD.pure (NoPanic.then (NoPanic.then (NoPanic.block (NoPanic.then (NoPanic.then (NoPanic.block (NoPanic.then hN))))))) 3 17 (.slice A xs.length c) (by kernel_rfl) (fun _ => by kernel_rfl) hS37 ?_
      refine WD.pure (NoPanic.then (NoPanic.then (NoPanic.block (NoPanic.then (NoPanic.then (NoPanic.block (NoPanic.then hN))))))) 4 18 (.int .i64 (k : Int)) (by kernel_rfl) (fun _ => by kernel_rfl) hS37 ?_
      obtain ⟨e40, he41⟩ := get_some (xs := xs) (i := k) (by omega)
      obtain ⟨b42, o44, hA43, hc45⟩ := hr.at_ _ _ he41
      refine WD.index (NoPanic.then (NoPanic.then (NoPanic.block (NoPanic.then (NoPanic.then (NoPanic.block (NoPanic.then hN))))))) 5 A xs.length c 19 .i64 (k : Int) b42 o44 k 4 (by kernel_rfl) (by kernel_rfl) hA43 (by omega) (by omega) (o44 + k * 4) (by first | (simp; done) | omega) hS37 ?_
      refine WD.load (NoPanic.then (NoPanic.then (NoPanic.block (NoPanic.then (NoPanic.then (NoPanic.block (NoPanic.then hN))))))) 6 27 (.pointer (some ⟨b42, o44 + k * 4, none⟩)) (.agg #[.int .u32 e40.vip, .int .i64 e40.first, .int .u32 e40.dip, .int .i64 e40.exp]) 20 (by kernel_rfl) (by kernel_rfl) (fun _ hS_ => run_rdN (l := [.int .u32 e40.vip, .int .i64 e40.first, .int .u32 e40.dip, .int .i64 e40.exp]) rfl rfl (fun j u hu => by have hq_ := Fr.cell hS_ (hC36.fr.cell (hc45 j u hu) (by simp)) (by simp); simpa [Nat.add_assoc] using hq_)) hS37 ?_
      refine WD.load (NoPanic.then (NoPanic.then (NoPanic.block (NoPanic.then (NoPanic.then (NoPanic.block (NoPanic.then hN))))))) 7 27 (.pointer (some ⟨g3, 0, none⟩)) (.agg #[.int .u32 l.vip, .int .i64 l.first, .int .u32 l.dip, .int .i64 l.exp]) 21 (by kernel_rfl) (by kernel_rfl) (fun _ hS_ => run_ld (Fr.has hS_ (hC36.get 0 rfl) (by simp)) rfl) hS37 ?_
      refine WD.call 8 (by kernel_rfl) rfl rfl rfl rfl rfl (by kernel_rfl) (less2_ct e40 l w34) ?_
      rintro _ w47 ⟨rfl, hF46⟩
      have hS49 := hS37.trans hF46 (by simp)
      refine ⟨_, rfl, hS49, ?_⟩
      have hC48 := hC36.call hF46
      have ho50 := own_fr ho38 hF46 (by simp)
      refine WD.pure (NoPanic.then (NoPanic.then (NoPanic.block (NoPanic.then (NoPanic.then (NoPanic.block (NoPanic.then hN))))))) 9 23 (.bool (!(ltL e40 l))) (by kernel_rfl) (fun _ => by kernel_rfl) hS49 ?_
      refine WD.pure (NoPanic.then (NoPanic.then (NoPanic.block (NoPanic.then (NoPanic.then (NoPanic.block (NoPanic.then hN))))))) 10 24 (.bool (!(ltL e40 l))) (by kernel_rfl) (fun _ => by kernel_rfl) hS49 ?_
      refine WD.done (by kernel_rfl) ?_
      refine QX.then_normal (hK33 _ _ ?_)
      refine WC.test_at 24 (!(ltL e40 l)) rfl (fun t51b => ?_) (fun t51b => ?_)
      · -- (!(ltL e40 l)) = true: true
        have t51 : (ltL e40 l) = false := by first | (simpa only [Bool.not_eq_true', Bool.not_eq_false'] using t51b) | simpa using t51b
        refine WC.cond_true rfl ?_
        refine WC.seq (fun K52 hK53 => ?_)
        refine WC.region ?_
        refine WL.runs 1 [(25, .slice A5 n5 c5)] (fun _ => by kernel_rfl) ?_
        refine WL.load 27 (.pointer (some ⟨g3, 0, none⟩)) (.agg #[.int .u32 l.vip, .int .i64 l.first, .int .u32 l.dip, .int .i64 l.exp]) 26 (by kernel_rfl) (run_ld (hC48.get 0 rfl) rfl) ?_
        refine WL.newM hC48 (fun b => .slice (some ⟨b, 0, none⟩) 1 1) (.cells #[.int .u32 l.vip, .int .i64 l.first, .int .u32 l.dip, .int .i64 l.exp] 27) 27 (fun _ => by kernel_rfl) (fun g54 w55 hb58 hF56 hC57 => ?_)
        have ho59 := own_fr ho50 hF56 (by simp)
        obtain ⟨v60, w61, hr62, ho63, hF64, hC65, hnil66, hsub67⟩ := app_run Tryd.prog hC57 0 (v := .slice A5 n5 c5) rfl 25 25 27 4 32 n5 1 1 (some ⟨g54, 0, none⟩) rfl ho59 [.int .u32 l.vip, .int .i64 l.first, .int .u32 l.dip, .int .i64 l.exp] rfl (srcOk.blk 1 (hC57.get 1 rfl)) rfl (by simp only [maxLen]; omega) (by omega)
        have ho71 := own_snoc (enc := encL) (ys := O) l ho63
        obtain ⟨A68, c69, rfl, hle70⟩ := own_form ho71
        refine WL.sem (Builtin.append_ #[25, 25] 25 #[.slice A5 n5 c5, .slice (some ⟨g54, 0, none⟩) 1 1]) 28 (.slice A68 (n5 + 1) c69) (by kernel_rfl) hr62 ?_
        refine WL.runs 1 [(5, .slice A68 (n5 + 1) c69)] (fun _ => by kernel_rfl) ?_
        refine WL.done rfl ?_
        refine QX.then_normal (hK53 _ _ ?_)
        refine WC.region ?_
        refine WL.runs 1 [(6, .bool true)] (fun _ => by kernel_rfl) ?_
        refine WL.done rfl ?_
        refine QX.then_normal (hK31 _ _ ?_)
        refine WC.seq (fun K72 hK73 => ?_)
        refine WC.drawC hC65 [] (by kernel_rfl) (fun w74 hF75 hC76 hS77 => ?_)
        have ho78 := own_fr ho71 hF75 (by simp)
        refine WD.pure (NoPanic.then (NoPanic.block (NoPanic.then (NoPanic.then (NoPanic.block (NoPanic.then hN)))))) 0 29 (.slice A xs.length c) (by kernel_rfl) (fun _ => by kernel_rfl) hS77 ?_
        refine WD.pure (NoPanic.then (NoPanic.block (NoPanic.then (NoPanic.then (NoPanic.block (NoPanic.then hN)))))) 1 30 (.int .i64 (k : Int)) (by kernel_rfl) (fun _ => by kernel_rfl) hS77 ?_
        refine WD.index (NoPanic.then (NoPanic.block (NoPanic.then (NoPanic.then (NoPanic.block (NoPanic.then hN)))))) 2 A xs.length c 31 .i64 (k : Int) b42 o44 k 4 (by kernel_rfl) (by kernel_rfl) hA43 (by omega) (by omega) (o44 + k * 4) (by first | (simp; done) | omega) hS77 ?_
        refine WD.pure (NoPanic.then (NoPanic.block (NoPanic.then (NoPanic.then (NoPanic.block (NoPanic.then hN)))))) 3 32 (.pointer (some ⟨b42, o44 + k * 4, none⟩)) (by kernel_rfl) (fun _ => by kernel_rfl) hS77 ?_
        refine WD.pure (NoPanic.then (NoPanic.block (NoPanic.then (NoPanic.then (NoPanic.block (NoPanic.then hN)))))) 5 34 (.pointer (some ⟨g3, 0, none⟩)) (by kernel_rfl) (fun _ => by kernel_rfl) hS77 ?_
        refine WD.load (NoPanic.then (NoPanic.block (NoPanic.then (NoPanic.then (NoPanic.block (NoPanic.then hN)))))) 4 23 (.pointer (some ⟨b42, o44 + k * 4, none⟩)) (.int .u32 e40.vip) 33 (by kernel_rfl) (by kernel_rfl) (fun _ hS_ => run_load1 rfl (by simpa [Nat.add_assoc] using Fr.cell hS_ (hC76.fr.cell (hc45 0 _ rfl) (by simp)) (by simp))) hS77 ?_
        refine WD.load (NoPanic.then (NoPanic.block (NoPanic.then (NoPanic.then (NoPanic.block (NoPanic.then hN)))))) 6 23 (.pointer (some ⟨g3, 0, none⟩)) (.int .u32 l.vip) 35 (by kernel_rfl) (by kernel_rfl) (fun _ hS_ => run_ld (Fr.has hS_ (hC76.get 0 rfl) (by simp)) rfl) hS77 ?_
        refine WD.pure (NoPanic.then (NoPanic.block (NoPanic.then (NoPanic.then (NoPanic.block (NoPanic.then hN)))))) 7 36 (.bool (e40.vip != l.vip)) (by kernel_rfl) (fun _ => by kernel_rfl) hS77 ?_
        refine WD.pure (NoPanic.then (NoPanic.block (NoPanic.then (NoPanic.then (NoPanic.block (NoPanic.then hN)))))) 8 37 (.bool (e40.vip != l.vip)) (by kernel_rfl) (fun _ => by kernel_rfl) hS77 ?_
        refine WD.test_at 37 (e40.vip != l.vip) rfl (fun t83b => ?_) (fun t83b => ?_)
        · -- e40.vip ≠ l.vip: true
          have t83 : e40.vip ≠ l.vip := by simpa using t83b
          refine WD.pure (NoPanic.then (NoPanic.block (NoPanic.then (NoPanic.then (NoPanic.block (NoPanic.then hN)))))) 9 38 (undef) (by kernel_rfl) (fun _ => by kernel_rfl) hS77 ?_
          refine WD.pure (NoPanic.then (NoPanic.block (NoPanic.then (NoPanic.then (NoPanic.block (NoPanic.then hN)))))) 10 39 (undef) (by kernel_rfl) (fun _ => by kernel_rfl) hS77 ?_
          refine WD.pure (NoPanic.then (NoPanic.block (NoPanic.then (NoPanic.then (NoPanic.block (NoPanic.then hN)))))) 11 40 (undef) (by kernel_rfl) (fun _ => by kernel_rfl) hS77 ?_
          refine WD.pure (NoPanic.then (NoPanic.block (NoPanic.then (NoPanic.then (NoPanic.block (NoPanic.then hN)))))) 12 41 (undef) (by kernel_rfl) (fun _ => by kernel_rfl) hS77 ?_
          refine WD.pure (NoPanic.then (NoPanic.block (NoPanic.then (NoPanic.then (NoPanic.block (NoPanic.then hN)))))) 13 42 (undef) (by kernel_rfl) (fun _ => by kernel_rfl) hS77 ?_
          refine WD.pure (NoPanic.then (NoPanic.block (NoPanic.then (NoPanic.then (NoPanic.block (NoPanic.then hN)))))) 14 43 (undef) (by kernel_rfl) (fun _ => by kernel_rfl) hS77 ?_
          refine WD.pure (NoPanic.then (NoPanic.block (NoPanic.then (NoPanic.then (NoPanic.block (NoPanic.then hN)))))) 15 44 (undef) (by kernel_rfl) (fun _ => by kernel_rfl) hS77 ?_
          refine WD.pure (NoPanic.then (NoPanic.block (NoPanic.then (NoPanic.then (NoPanic.block (NoPanic.then hN)))))) 16 45 (undef) (by kernel_rfl) (fun _ => by kernel_rfl) hS77 ?_
          refine WD.pure (NoPanic.then (NoPanic.block (NoPanic.then (NoPanic.then (NoPanic.block (NoPanic.then hN)))))) 17 46 (.bool true) (by kernel_rfl) (fun _ => by kernel_rfl) hS77 ?_
          refine WD.done (by kernel_rfl) ?_
          refine QX.then_normal (hK73 _ _ ?_)
          refine WC.cond_true rfl ?_
          refine WC.region ?_
          refine WL.runs 3 [(49, .int .i64 (k : Int)), (48, .slice A xs.length c), (47, .slice A68 (n5 + 1) c69)] (fun _ => by kernel_rfl) ?_
          refine WL.index A xs.length c 50 .i64 (k : Int) b42 o44 k 4 (by kernel_rfl) hA43 (by omega) (by omega) (o44 + k * 4) (by first | (simp; done) | omega) ?_
          refine WL.load 27 (.pointer (some ⟨b42, o44 + k * 4, none⟩)) (.agg #[.int .u32 e40.vip, .int .i64 e40.first, .int .u32 e40.dip, .int .i64 e40.exp]) 51 (by kernel_rfl) (run_rdN (l := [.int .u32 e40.vip, .int .i64 e40.first, .int .u32 e40.dip, .int .i64 e40.exp]) rfl rfl (fun j u hu => by have hq_ := hC76.fr.cell (hc45 j u hu) (by simp); simpa [Nat.add_assoc] using hq_)) ?_
          refine WL.newM hC76 (fun b => .slice (some ⟨b, 0, none⟩) 1 1) (.cells #[.int .u32 e40.vip, .int .i64 e40.first, .int .u32 e40.dip, .int .i64 e40.exp] 27) 52 (fun _ => by kernel_rfl) (fun g88 w89 hb92 hF90 hC91 => ?_)
          have ho93 := own_fr ho78 hF90 (by simp)
          obtain ⟨v94, w95, hr96, ho97, hF98, hC99, hnil100, hsub101⟩ := app_run Tryd.prog hC91 0 (v := .slice A68 (n5 + 1) c69) rfl 25 25 27 4 32 (n5 + 1) 1 1 (some ⟨g88, 0, none⟩) rfl ho93 [.int .u32 e40.vip, .int .i64 e40.first, .int .u32 e40.dip, .int .i64 e40.exp] rfl (srcOk.blk 1 (hC91.get 2 rfl)) rfl (by simp only [maxLen]; omega) (by omega)
          have ho105 := own_snoc (enc := encL) (ys := O ++ [l]) e40 ho97
          obtain ⟨A102, c103, rfl, hle104⟩ := own_form ho105
          refine WL.sem (Builtin.append_ #[25, 25] 25 #[.slice A68 (n5 + 1) c69, .slice (some ⟨g88, 0, none⟩) 1 1]) 53 (.slice A102 (n5 + 1 + 1) c103) (by kernel_rfl) hr96 ?_
          refine WL.runs 1 [(5, .slice A102 (n5 + 1 + 1) c103)] (fun _ => by kernel_rfl) ?_
          refine WL.done rfl ?_
          refine QX.block_normal ?_
          refine QX.then_normal (hK29 _ _ ?_)
          refine WC.region ?_
          refine WL.runs 2 [(13, .int .i64 (IntKind.i64.wrap ((k : Int) + 1))), (12, .int .i64 (k : Int))] (fun _ => by kernel_rfl) ?_
          refine WL.recast (show (.int .i64 (IntKind.i64.wrap ((k : Int) + 1)) : Value) = .int .i64 ((k : Int) + 1) from by rw [wrap_in_i64 ((k : Int) + 1) (by omega) (by omega)]) ?_
          refine WL.runs 1 [(7, .int .i64 ((k : Int) + 1))] (fun _ => by kernel_rfl) ?_
          refine WL.done rfl ?_
          refine QX.then_normal ?_
          have hC106 := hC99.pick [0] [0] rfl rfl
          refine fun a_ ha_ => hK18 _ _ _ ?_ ⟨k + 1, A102, n5 + 1 + 1, c103, O ++ [l] ++ [e40], true, rfl, rfl, hC106, ho105, by omega, by omega, by rw [fold_snoc he41, ← hO]; simp [wstep, t27, t27b, t39, t39b, t51, t51b, t83, t83b]⟩ a_ (ha_.weaken (sub_of ⟨rfl, rfl, rfl, rfl, rfl, rfl, rfl, trivial⟩))
          omega
        · -- e40.vip ≠ l.vip: false
          have t83 : e40.vip = l.vip := by simpa using t83b
          refine WD.pure (NoPanic.then (NoPanic.block (NoPanic.then (NoPanic.then (NoPanic.block (NoPanic.then hN)))))) 9 38 (.slice A xs.length c) (by kernel_rfl) (fun _ => by kernel_rfl) hS77 ?_
          refine WD.pure (NoPanic.then (NoPanic.block (NoPanic.then (NoPanic.then (NoPanic.block (NoPanic.then hN)))))) 10 39 (.int .i64 (k : Int)) (by kernel_rfl) (fun _ => by kernel_rfl) hS77 ?_
          refine WD.index (NoPanic.then (NoPanic.block (NoPanic.then (NoPanic.then (NoPanic.block (NoPanic.then hN)))))) 11 A xs.length c 40 .i64 (k : Int) b42 o44 k 4 (by kernel_rfl) (by kernel_rfl) hA43 (by omega) (by omega) (o44 + k * 4) (by first | (simp; done) | omega) hS77 ?_
          refine WD.pure (NoPanic.then (NoPanic.block (NoPanic.then (NoPanic.then (NoPanic.block (NoPanic.then hN)))))) 12 41 (.pointer (some ⟨b42, o44 + k * 4 + 1, none⟩)) (by kernel_rfl) (fun _ => by kernel_rfl) hS77 ?_
          refine WD.pure (NoPanic.then (NoPanic.block (NoPanic.then (NoPanic.then (NoPanic.block (NoPanic.then hN)))))) 14 43 (.pointer (some ⟨g3, 1, none⟩)) (by kernel_rfl) (fun _ => by kernel_rfl) hS77 ?_
          refine WD.load (NoPanic.then (NoPanic.block (NoPanic.then (NoPanic.then (NoPanic.block (NoPanic.then hN)))))) 13 3 (.pointer (some ⟨b42, o44 + k * 4 + 1, none⟩)) (.int .i64 e40.first) 42 (by kernel_rfl) (by kernel_rfl) (fun _ hS_ => run_load1 rfl (by simpa [Nat.add_assoc] using Fr.cell hS_ (hC76.fr.cell (hc45 1 _ rfl) (by simp)) (by simp))) hS77 ?_
          refine WD.load (NoPanic.then (NoPanic.block (NoPanic.then (NoPanic.then (NoPanic.block (NoPanic.then hN)))))) 15 3 (.pointer (some ⟨g3, 1, none⟩)) (.int .i64 l.first) 44 (by kernel_rfl) (by kernel_rfl) (fun _ hS_ => run_ld (Fr.has hS_ (hC76.get 0 rfl) (by simp)) rfl) hS77 ?_
          refine WD.pure (NoPanic.then (NoPanic.block (NoPanic.then (NoPanic.then (NoPanic.block (NoPanic.then hN)))))) 16 45 (.bool (e40.first != l.first)) (by kernel_rfl) (fun _ => by kernel_rfl) hS77 ?_
          refine WD.pure (NoPanic.then (NoPanic.block (NoPanic.then (NoPanic.then (NoPanic.block (NoPanic.then hN)))))) 17 46 (.bool (e40.first != l.first)) (by kernel_rfl) (fun _ => by kernel_rfl) hS77 ?_
          refine WD.done (by kernel_rfl) ?_
          refine QX.then_normal (hK73 _ _ ?_)
          refine WC.test_at 46 (e40.first != l.first) rfl (fun t111b => ?_) (fun t111b => ?_)
          · -- e40.first ≠ l.first: true
            have t111 : e40.first ≠ l.first := by simpa using t111b
            refine WC.cond_true rfl ?_
            refine WC.region ?_
            refine WL.runs 3 [(49, .int .i64 (k : Int)), (48, .slice A xs.length c), (47, .slice A68 (n5 + 1) c69)] (fun _ => by kernel_rfl) ?_
            refine WL.index A xs.length c 50 .i64 (k : Int) b42 o44 k 4 (by kernel_rfl) hA43 (by omega) (by omega) (o44 + k * 4) (by first | (simp; done) | omega) ?_
            refine WL.load 27 (.pointer (some ⟨b42, o44 + k * 4, none⟩)) (.agg #[.int .u32 e40.vip, .int .i64 e40.first, .int .u32 e40.dip, .int .i64 e40.exp]) 51 (by kernel_rfl) (run_rdN (l := [.int .u32 e40.vip, .int .i64 e40.first, .int .u32 e40.dip, .int .i64 e40.exp]) rfl rfl (fun j u hu => by have hq_ := hC76.fr.cell (hc45 j u hu) (by simp); simpa [Nat.add_assoc] using hq_)) ?_
            refine WL.newM hC76 (fun b => .slice (some ⟨b, 0, none⟩) 1 1) (.cells #[.int .u32 e40.vip, .int .i64 e40.first, .int .u32 e40.dip, .int .i64 e40.exp] 27) 52 (fun _ => by kernel_rfl) (fun g116 w117 hb120 hF118 hC119 => ?_)
            have ho121 := own_fr ho78 hF118 (by simp)
            obtain ⟨v122, w123, hr124, ho125, hF126, hC127, hnil128, hsub129⟩ := app_run Tryd.prog hC119 0 (v := .slice A68 (n5 + 1) c69) rfl 25 25 27 4 32 (n5 + 1) 1 1 (some ⟨g116, 0, none⟩) rfl ho121 [.int .u32 e40.vip, .int .i64 e40.first, .int .u32 e40.dip, .int .i64 e40.exp] rfl (srcOk.blk 1 (hC119.get 2 rfl)) rfl (by simp only [maxLen]; omega) (by omega)
            have ho133 := own_snoc (enc := encL) (ys := O ++ [l]) e40 ho125
            obtain ⟨A130, c131, rfl, hle132⟩ := own_form ho133
            refine WL.sem (Builtin.append_ #[25, 25] 25 #[.slice A68 (n5 + 1) c69, .slice (some ⟨g116, 0, none⟩) 1 1]) 53 (.slice A130 (n5 + 1 + 1) c131) (by kernel_rfl) hr124 ?_
            refine WL.runs 1 [(5, .slice A130 (n5 + 1 + 1) c131)] (fun _ => by kernel_rfl) ?_
            refine WL.done rfl ?_
            refine QX.block_normal ?_
            refine QX.then_normal (hK29 _ _ ?_)
            refine WC.region ?_
            refine WL.runs 2 [(13, .int .i64 (IntKind.i64.wrap ((k : Int) + 1))), (12, .int .i64 (k : Int))] (fun _ => by kernel_rfl) ?_
            refine WL.recast (show (.int .i64 (IntKind.i64.wrap ((k : Int) + 1)) : Value) = .int .i64 ((k : Int) + 1) from by rw [wrap_in_i64 ((k : Int) + 1) (by omega) (by omega)]) ?_
            refine WL.runs 1 [(7, .int .i64 ((k : Int) + 1))] (fun _ => by kernel_rfl) ?_
            refine WL.done rfl ?_
            refine QX.then_normal ?_
            have hC134 := hC127.pick [0] [0] rfl rfl
            refine fun a_ ha_ => hK18 _ _ _ ?_ ⟨k + 1, A130, n5 + 1 + 1, c131, O ++ [l] ++ [e40], true, rfl, rfl, hC134, ho133, by omega, by omega, by rw [fold_snoc he41, ← hO]; simp [wstep, t111, t111b, t27, t27b, t39, t39b, t51, t51b, t83, t83b]⟩ a_ (ha_.weaken (sub_of ⟨rfl, rfl, rfl, rfl, rfl, rfl, rfl, trivial⟩))
            omega
          · -- e40.first ≠ l.first: false
            have t111 : e40.first = l.first := by simpa using t111b
            refine WC.cond_false rfl ?_
            refine WC.skip ?_
            refine QX.block_normal ?_
            refine QX.then_normal (hK29 _ _ ?_)
            refine WC.region ?_
            refine WL.runs 2 [(13, .int .i64 (IntKind.i64.wrap ((k : Int) + 1))), (12, .int .i64 (k : Int))] (fun _ => by kernel_rfl) ?_
            refine WL.recast (show (.int .i64 (IntKind.i64.wrap ((k : Int) + 1)) : Value) = .int .i64 ((k : Int) + 1) from by rw [wrap_in_i64 ((k : Int) + 1) (by omega) (by omega)]) ?_
            refine WL.runs 1 [(7, .int .i64 ((k : Int) + 1))] (fun _ => by kernel_rfl) ?_
            refine WL.done rfl ?_
            refine QX.then_normal ?_
            have hC135 := hC76.pick [0] [0] rfl rfl
            refine fun a_ ha_ => hK18 _ _ _ ?_ ⟨k + 1, A68, n5 + 1, c69, O ++ [l], true, rfl, rfl, hC135, ho78, by omega, by omega, by rw [fold_snoc he41, ← hO]; simp [wstep, t111, t111b, t27, t27b, t39, t39b, t51, t51b, t83, t83b]⟩ a_ (ha_.weaken (sub_of ⟨rfl, rfl, rfl, rfl, rfl, rfl, rfl, trivial⟩))
            omega
      · -- (!(ltL e40 l)) = true: false
        have t51 : (ltL e40 l) = true := by first | (simpa only [Bool.not_eq_true', Bool.not_eq_false'] using t51b) | simpa using t51b
        refine WC.cond_false rfl ?_
        refine WC.skip ?_
        refine QX.then_normal (hK31 _ _ ?_)
        refine WC.seq (fun K136 hK137 => ?_)
        refine WC.drawC hC48 [] (by kernel_rfl) (fun w138 hF139 hC140 hS141 => ?_)
        have ho142 := own_fr ho50 hF139 (by simp)
        refine WD.pure (NoPanic.then (NoPanic.block (NoPanic.then (NoPanic.then (NoPanic.block (NoPanic.then hN)))))) 0 29 (.slice A xs.length c) (by kernel_rfl) (fun _ => by kernel_rfl) hS141 ?_
        refine WD.pure (NoPanic.then (NoPanic.block (NoPanic.then (NoPanic.then (NoPanic.block (NoPanic.then hN)))))) 1 30 (.int .i64 (k : Int)) (by kernel_rfl) (fun _ => by kernel_rfl) hS141 ?_
        refine WD.index (NoPanic.then (NoPanic.block (NoPanic.then (NoPanic.then (NoPanic.block (NoPanic.then hN)))))) 2 A xs.length c 31 .i64 (k : Int) b42 o44 k 4 (by kernel_rfl) (by kernel_rfl) hA43 (by omega) (by omega) (o44 + k * 4) (by first | (simp; done) | omega) hS141 ?_
        refine WD.pure (NoPanic.then (NoPanic.block (NoPanic.then (NoPanic.then (NoPanic.block (NoPanic.then hN)))))) 3 32 (.pointer (some ⟨b42, o44 + k * 4, none⟩)) (by kernel_rfl) (fun _ => by kernel_rfl) hS141 ?_
        refine WD.pure (NoPanic.then (NoPanic.block (NoPanic.then (NoPanic.then (NoPanic.block (NoPanic.then hN)))))) 5 34 (.pointer (some ⟨g3, 0, none⟩)) (by kernel_rfl) (fun _ => by kernel_rfl) hS141 ?_
        refine WD.load (NoPanic.then (NoPanic.block (NoPanic.then (NoPanic.then (NoPanic.block (NoPanic.then hN)))))) 4 23 (.pointer (some ⟨b42, o44 + k * 4, none⟩)) (.int .u32 e40.vip) 33 (by kernel_rfl) (by kernel_rfl) (fun _ hS_ => run_load1 rfl (by simpa [Nat.add_assoc] using Fr.cell hS_ (hC140.fr.cell (hc45 0 _ rfl) (by simp)) (by simp))) hS141 ?_
        refine WD.load (NoPanic.then (NoPanic.block (NoPanic.then (NoPanic.then (NoPanic.block (NoPanic.then hN)))))) 6 23 (.pointer (some ⟨g3, 0, none⟩)) (.int .u32 l.vip) 35 (by kernel_rfl) (by kernel_rfl) (fun _ hS_ => run_ld (Fr.has hS_ (hC140.get 0 rfl) (by simp)) rfl) hS141 ?_
        refine WD.pure (NoPanic.then (NoPanic.block (NoPanic.then (NoPanic.then (NoPanic.block (NoPanic.then hN)))))) 7 36 (.bool (e40.vip != l.vip)) (by kernel_rfl) (fun _ => by kernel_rfl) hS141 ?_
        refine WD.pure (NoPanic.then (NoPanic.block (NoPanic.then (NoPanic.then (NoPanic.block (NoPanic.then hN)))))) 8 37 (.bool (e40.vip != l.vip)) (by kernel_rfl) (fun _ => by kernel_rfl) hS141 ?_
        refine WD.test_at 37 (e40.vip != l.vip) rfl (fun t147b => ?_) (fun t147b => ?_)
        · -- e40.vip ≠ l.vip: true
          have t147 : e40.vip ≠ l.vip := by simpa using t147b
          refine WD.pure (NoPanic.then (NoPanic.block (NoPanic.then (NoPanic.then (NoPanic.block (NoPanic.then hN)))))) 9 38 (undef) (by kernel_rfl) (fun _ => by kernel_rfl) hS141 ?_
          refine WD.pure (NoPanic.then (NoPanic.block (NoPanic.then (NoPanic.then (NoPanic.block (NoPanic.then hN)))))) 10 39 (undef) (by kernel_rfl) (fun _ => by kernel_rfl) hS141 ?_
          refine WD.pure (NoPanic.then (NoPanic.block (NoPanic.then (NoPanic.then (NoPanic.block (NoPanic.then hN)))))) 11 40 (undef) (by kernel_rfl) (fun _ => by kernel_rfl) hS141 ?_
          refine WD.pure (NoPanic.then (NoPanic.block (NoPanic.then (NoPanic.then (NoPanic.block (NoPanic.then hN)))))) 12 41 (undef) (by kernel_rfl) (fun _ => by kernel_rfl) hS141 ?_
          refine WD.pure (NoPanic.then (NoPanic.block (NoPanic.then (NoPanic.then (NoPanic.block (NoPanic.then hN)))))) 13 42 (undef) (by kernel_rfl) (fun _ => by kernel_rfl) hS141 ?_
          refine WD.pure (NoPanic.then (NoPanic.block (NoPanic.then (NoPanic.then (NoPanic.block (NoPanic.then hN)))))) 14 43 (undef) (by kernel_rfl) (fun _ => by kernel_rfl) hS141 ?_
          refine WD.pure (NoPanic.then (NoPanic.block (NoPanic.then (NoPanic.then (NoPanic.block (NoPanic.then hN)))))) 15 44 (undef) (by kernel_rfl) (fun _ => by kernel_rfl) hS141 ?_
          refine WD.pure (NoPanic.then (NoPanic.block (NoPanic.then (NoPanic.then (NoPanic.block (NoPanic.then hN)))))) 16 45 (undef) (by kernel_rfl) (fun _ => by kernel_rfl) hS141 ?_
          refine WD.pure (NoPanic.then (NoPanic.block (NoPanic.then (NoPanic.then (NoPanic.block (NoPanic.then hN)))))) 17 46 (.bool true) (by kernel_rfl) (fun _ => by kernel_rfl) hS141 ?_
          refine WD.done (by kernel_rfl) ?_
          refine QX.then_normal (hK137 _ _ ?_)
          refine WC.cond_true rfl ?_
          refine WC.region ?_
          refine WL.runs 3 [(49, .int .i64 (k : Int)), (48, .slice A xs.length c), (47, .slice A5 n5 c5)] (fun _ => by kernel_rfl) ?_
          refine WL.index A xs.length c 50 .i64 (k : Int) b42 o44 k 4 (by kernel_rfl) hA43 (by omega) (by omega) (o44 + k * 4) (by first | (simp; done) | omega) ?_
          refine WL.load 27 (.pointer (some ⟨b42, o44 + k * 4, none⟩)) (.agg #[.int .u32 e40.vip, .int .i64 e40.first, .int .u32 e40.dip, .int .i64 e40.exp]) 51 (by kernel_rfl) (run_rdN (l := [.int .u32 e40.vip, .int .i64 e40.first, .int .u32 e40.dip, .int .i64 e40.exp]) rfl rfl (fun j u hu => by have hq_ := hC140.fr.cell (hc45 j u hu) (by simp); simpa [Nat.add_assoc] using hq_)) ?_
          refine WL.newM hC140 (fun b => .slice (some ⟨b, 0, none⟩) 1 1) (.cells #[.int .u32 e40.vip, .int .i64 e40.first, .int .u32 e40.dip, .int .i64 e40.exp] 27) 52 (fun _ => by kernel_rfl) (fun g152 w153 hb156 hF154 hC155 => ?_)
          have ho157 := own_fr ho142 hF154 (by simp)
          obtain ⟨v158, w159, hr160, ho161, hF162, hC163, hnil164, hsub165⟩ := app_run Tryd.prog hC155 0 (v := .slice A5 n5 c5) rfl 25 25 27 4 32 n5 1 1 (some ⟨g152, 0, none⟩) rfl ho157 [.int .u32 e40.vip, .int .i64 e40.first, .int .u32 e40.dip, .int .i64 e40.exp] rfl (srcOk.blk 1 (hC155.get 1 rfl)) rfl (by simp only [maxLen]; omega) (by omega)
          have ho169 := own_snoc (enc := encL) (ys := O) e40 ho161
          obtain ⟨A166, c167, rfl, hle168⟩ := own_form ho169
          refine WL.sem (Builtin.append_ #[25, 25] 25 #[.slice A5 n5 c5, .slice (some ⟨g152, 0, none⟩) 1 1]) 53 (.slice A166 (n5 + 1) c167) (by kernel_rfl) hr160 ?_
          refine WL.runs 1 [(5, .slice A166 (n5 + 1) c167)] (fun _ => by kernel_rfl) ?_
          refine WL.done rfl ?_
          refine QX.block_normal ?_
          refine QX.then_normal (hK29 _ _ ?_)
          refine WC.region ?_
          refine WL.runs 2 [(13, .int .i64 (IntKind.i64.wrap ((k : Int) + 1))), (12, .int .i64 (k : Int))] (fun _ => by kernel_rfl) ?_
          refine WL.recast (show (.int .i64 (IntKind.i64.wrap ((k : Int) + 1)) : Value) = .int .i64 ((k : Int) + 1) from by rw [wrap_in_i64 ((k : Int) + 1) (by omega) (by omega)]) ?_
          refine WL.runs 1 [(7, .int .i64 ((k : Int) + 1))] (fun _ => by kernel_rfl) ?_
          refine WL.done rfl ?_
          refine QX.then_normal ?_
          have hC170 := hC163.pick [0] [0] rfl rfl
          refine fun a_ ha_ => hK18 _ _ _ ?_ ⟨k + 1, A166, n5 + 1, c167, O ++ [e40], d, rfl, rfl, hC170, ho169, by omega, by omega, by rw [fold_snoc he41, ← hO]; simp [wstep, t147, t147b, t27, t27b, t39, t39b, t51, t51b]⟩ a_ (ha_.weaken (sub_of ⟨rfl, rfl, rfl, rfl, rfl, rfl, rfl, trivial⟩))
          omega
        · -- e40.vip ≠ l.vip: false
          have t147 : e40.vip = l.vip := by simpa using t147b
          refine WD.pure (NoPanic.then (NoPanic.block (NoPanic.then (NoPanic.then (NoPanic.block (NoPanic.then hN)))))) 9 38 (.slice A xs.length c) (by kernel_rfl) (fun _ => by kernel_rfl) hS141 ?_
          refine WD.pure (NoPanic.then (NoPanic.block (NoPanic.then (NoPanic.then (NoPanic.block (NoPanic.then hN)))))) 10 39 (.int .i64 (k : Int)) (by kernel_rfl) (fun _ => by kernel_rfl) hS141 ?_
          refine WD.index (NoPanic.then (NoPanic.block (NoPanic.then (NoPanic.then (NoPanic.block (NoPanic.then hN)))))) 11 A xs.length c 40 .i64 (k : Int) b42 o44 k 4 (by kernel_rfl) (by kernel_rfl) hA43 (by omega) (by omega) (o44 + k * 4) (by first | (simp; done) | omega) hS141 ?_
          refine WD.pure (NoPanic.then (NoPanic.block (NoPanic.then (NoPanic.then (NoPanic.block (NoPanic.then hN)))))) 12 41 (.pointer (some ⟨b42, o44 + k * 4 + 1, none⟩)) (by kernel_rfl) (fun _ => by kernel_rfl) hS141 ?_
          refine WD.pure (NoPanic.then (NoPanic.block (NoPanic.then (NoPanic.then (NoPanic.block (NoPanic.then hN)))))) 14 43 (.pointer (some ⟨g3, 1, none⟩)) (by kernel_rfl) (fun _ => by kernel_rfl) hS141 ?_
          refine WD.load (NoPanic.then (NoPanic.block (NoPanic.then (NoPanic.then (NoPanic.block (NoPanic.then hN)))))) 13 3 (.pointer (some ⟨b42, o44 + k * 4 + 1, none⟩)) (.int .i64 e40.first) 42 (by kernel_rfl) (by kernel_rfl) (fun _ hS_ => run_load1 rfl (by simpa [Nat.add_assoc] using Fr.cell hS_ (hC140.fr.cell (hc45 1 _ rfl) (by simp)) (by simp))) hS141 ?_
          refine WD.load (NoPanic.then (NoPanic.block (NoPanic.then (NoPanic.then (NoPanic.block (NoPanic.then hN)))))) 15 3 (.pointer (some ⟨g3, 1, none⟩)) (.int .i64 l.first) 44 (by kernel_rfl) (by kernel_rfl) (fun _ hS_ => run_ld (Fr.has hS_ (hC140.get 0 rfl) (by simp)) rfl) hS141 ?_
          refine WD.pure (NoPanic.then (NoPanic.block (NoPanic.then (NoPanic.then (NoPanic.block (NoPanic.then hN)))))) 16 45 (.bool (e40.first != l.first)) (by kernel_rfl) (fun _ => by kernel_rfl) hS141 ?_
          refine WD.pure (NoPanic.then (NoPanic.block (NoPanic.then (NoPanic.then (NoPanic.block (NoPanic.then hN)))))) 17 46 (.bool (e40.first != l.first)) (by kernel_rfl) (fun _ => by kernel_rfl) hS141 ?_
          refine WD.done (by kernel_rfl) ?_
          refine QX.then_normal (hK137 _ _ ?_)
          refine WC.test_at 46 (e40.first != l.first) rfl (fun t175b => ?_) (fun t175b => ?_)
          · -- e40.first ≠ l.first: true
            have t175 : e40.first ≠ l.first := by simpa using t175b
            refine WC.cond_true rfl ?_
            refine WC.region ?_
            refine WL.runs 3 [(49, .int .i64 (k : Int)), (48, .slice A xs.length c), (47, .slice A5 n5 c5)] (fun _ => by kernel_rfl) ?_
            refine WL.index A xs.length c 50 .i64 (k : Int) b42 o44 k 4 (by kernel_rfl) hA43 (by omega) (by omega) (o44 + k * 4) (by first | (simp; done) | omega) ?_
            refine WL.load 27 (.pointer (some ⟨b42, o44 + k * 4, none⟩)) (.agg #[.int .u32 e40.vip, .int .i64 e40.first, .int .u32 e40.dip, .int .i64 e40.exp]) 51 (by kernel_rfl) (run_rdN (l := [.int .u32 e40.vip, .int .i64 e40.first, .int .u32 e40.dip, .int .i64 e40.exp]) rfl rfl (fun j u hu => by have hq_ := hC140.fr.cell (hc45 j u hu) (by simp); simpa [Nat.add_assoc] using hq_)) ?_
            refine WL.newM hC140 (fun b => .slice (some ⟨b, 0, none⟩) 1 1) (.cells #[.int .u32 e40.vip, .int .i64 e40.first, .int .u32 e40.dip, .int .i64 e40.exp] 27) 52 (fun _ => by kernel_rfl) (fun g180 w181 hb184 hF182 hC183 => ?_)
            have ho185 := own_fr ho142 hF182 (by simp)
            obtain ⟨v186, w187, hr188, ho189, hF190, hC191, hnil192, hsub193⟩ := app_run Tryd.prog hC183 0 (v := .slice A5 n5 c5) rfl 25 25 27 4 32 n5 1 1 (some ⟨g180, 0, none⟩) rfl ho185 [.int .u32 e40.vip, .int .i64 e40.first, .int .u32 e40.dip, .int .i64 e40.exp] rfl (srcOk.blk 1 (hC183.get 1 rfl)) rfl (by simp only [maxLen]; omega) (by omega)
            have ho197 := own_snoc (enc := encL) (ys := O) e40 ho189
            obtain ⟨A194, c195, rfl, hle196⟩ := own_form ho197
            refine WL.sem (Builtin.append_ #[25, 25] 25 #[.slice A5 n5 c5, .slice (some ⟨g180, 0, none⟩) 1 1]) 53 (.slice A194 (n5 + 1) c195) (by kernel_rfl) hr188 ?_
            refine WL.runs 1 [(5, .slice A194 (n5 + 1) c195)] (fun _ => by kernel_rfl) ?_
            refine WL.done rfl ?_
            refine QX.block_normal ?_
            refine QX.then_normal (hK29 _ _ ?_)
            refine WC.region ?_
            refine WL.runs 2 [(13, .int .i64 (IntKind.i64.wrap ((k : Int) + 1))), (12, .int .i64 (k : Int))] (fun _ => by kernel_rfl) ?_
            refine WL.recast (show (.int .i64 (IntKind.i64.wrap ((k : Int) + 1)) : Value) = .int .i64 ((k : Int) + 1) from by rw [wrap_in_i64 ((k : Int) + 1) (by omega) (by omega)]) ?_
            refine WL.runs 1 [(7, .int .i64 ((k : Int) + 1))] (fun _ => by kernel_rfl) ?_
            refine WL.done rfl ?_
            refine QX.then_normal ?_
            have hC198 := hC191.pick [0] [0] rfl rfl
            refine fun a_ ha_ => hK18 _ _ _ ?_ ⟨k + 1, A194, n5 + 1, c195, O ++ [e40], d, rfl, rfl, hC198, ho197, by omega, by omega, by rw [fold_snoc he41, ← hO]; simp [wstep, t147, t147b, t175, t175b, t27, t27b, t39, t39b, t51, t51b]⟩ a_ (ha_.weaken (sub_of ⟨rfl, rfl, rfl, rfl, rfl, rfl, rfl, trivial⟩))
            omega
          · -- e40.first ≠ l.first: false
            have t175 : e40.first = l.first := by simpa using t175b
            refine WC.cond_false rfl ?_
            refine WC.skip ?_
            refine QX.block_normal ?_
            refine QX.then_normal (hK29 _ _ ?_)
            refine WC.region ?_
            refine WL.runs 2 [(13, .int .i64 (IntKind.i64.wrap ((k : Int) + 1))), (12, .int .i64 (k : Int))] (fun _ => by kernel_rfl) ?_
            refine WL.recast (show (.int .i64 (IntKind.i64.wrap ((k : Int) + 1)) : Value) = .int .i64 ((k : Int) + 1) from by rw [wrap_in_i64 ((k : Int) + 1) (by omega) (by omega)]) ?_
            refine WL.runs 1 [(7, .int .i64 ((k : Int) + 1))] (fun _ => by kernel_rfl) ?_
            refine WL.done rfl ?_
            refine QX.then_normal ?_
            have hC199 := hC140.pick [0] [0] rfl rfl
            refine fun a_ ha_ => hK18 _ _ _ ?_ ⟨k + 1, A5, n5, c5, O, d, rfl, rfl, hC199, ho142, by omega, by omega, by rw [fold_snoc he41, ← hO]; simp [wstep, t147, t147b, t175, t175b, t27, t27b, t39, t39b, t51, t51b]⟩ a_ (ha_.weaken (sub_of ⟨rfl, rfl, rfl, rfl, rfl, rfl, rfl, trivial⟩))
            omega
    · -- !d = true: false
      have t39 : d = true := by first | (simpa only [Bool.not_eq_true', Bool.not_eq_false'] using t39b) | simpa using t39b
      refine WD.pure (NoPanic.then (NoPanic.then (NoPanic.block (NoPanic.then (NoPanic.then (NoPanic.block (NoPanic.then hN))))))) 3 17 (undef) (by kernel_rfl) (fun _ => by kernel_rfl) hS37 ?_
      refine WD.pure (NoPanic.then (NoPanic.then (NoPanic.block (NoPanic.then (NoPanic.then (NoPanic.block (NoPanic.then hN))))))) 4 18 (undef) (by kernel_rfl) (fun _ => by kernel_rfl) hS37 ?_
      refine WD.pure (NoPanic.then (NoPanic.then (NoPanic.block (NoPanic.then (NoPanic.then (NoPanic.block (NoPanic.then hN))))))) 5 19 (undef) (by kernel_rfl) (fun _ => by kernel_rfl) hS37 ?_
      refine WD.pure (NoPanic.then (NoPanic.then (NoPanic.block (NoPanic.then (NoPanic.then (NoPanic.block (NoPanic.then hN))))))) 6 20 (undef) (by kernel_rfl) (fun _ => by kernel_rfl) hS37 ?_
      refine WD.pure (NoPanic.then (NoPanic.then (NoPanic.block (NoPanic.then (NoPanic.then (NoPanic.block (NoPanic.then hN))))))) 7 21 (undef) (by kernel_rfl) (fun _ => by kernel_rfl) hS37 ?_
      refine WD.pure (NoPanic.then (NoPanic.then (NoPanic.block (NoPanic.then (NoPanic.then (NoPanic.block (NoPanic.then hN))))))) 8 22 (undef) (by kernel_rfl) (fun _ => by kernel_rfl) hS37 ?_
      refine WD.pure (NoPanic.then (NoPanic.then (NoPanic.block (NoPanic.then (NoPanic.then (NoPanic.block (NoPanic.then hN))))))) 9 23 (undef) (by kernel_rfl) (fun _ => by kernel_rfl) hS37 ?_
      refine WD.pure (NoPanic.then (NoPanic.then (NoPanic.block (NoPanic.then (NoPanic.then (NoPanic.block (NoPanic.then hN))))))) 10 24 (.bool false) (by kernel_rfl) (fun _ => by kernel_rfl) hS37 ?_
      refine WD.done (by kernel_rfl) ?_
      refine QX.then_normal (hK33 _ _ ?_)
      refine WC.cond_false rfl ?_
      refine WC.skip ?_
      refine QX.then_normal (hK31 _ _ ?_)
      refine WC.seq (fun K200 hK201 => ?_)
      refine WC.drawC hC36 [] (by kernel_rfl) (fun w202 hF203 hC204 hS205 => ?_)
      have ho206 := own_fr ho38 hF203 (by simp)
      refine WD.pure (NoPanic.then (NoPanic.block (NoPanic.then (NoPanic.then (NoPanic.block (NoPanic.then hN)))))) 0 29 (.slice A xs.length c) (by kernel_rfl) (fun _ => by kernel_rfl) hS205 ?_
      refine WD.pure (NoPanic.then (NoPanic.block (NoPanic.then (NoPanic.then (NoPanic.block (NoPanic.then hN)))))) 1 30 (.int .i64 (k : Int)) (by kernel_rfl) (fun _ => by kernel_rfl) hS205 ?_
      obtain ⟨e207, he208⟩ := get_some (xs := xs) (i := k) (by omega)
      obtain ⟨b209, o211, hA210, hc212⟩ := hr.at_ _ _ he208
      refine WD.index (NoPanic.then (NoPanic.block (NoPanic.then (NoPanic.then (NoPanic.block (NoPanic.then hN)))))) 2 A xs.length c 31 .i64 (k : Int) b209 o211 k 4 (by kernel_rfl) (by kernel_rfl) hA210 (by omega) (by omega) (o211 + k * 4) (by first | (simp; done) | omega) hS205 ?_
      refine WD.pure (NoPanic.then (NoPanic.block (NoPanic.then (NoPanic.then (NoPanic.block (NoPanic.then hN)))))) 3 32 (.pointer (some ⟨b209, o211 + k * 4, none⟩)) (by kernel_rfl) (fun _ => by kernel_rfl) hS205 ?_
      refine WD.pure (NoPanic.then (NoPanic.block (NoPanic.then (NoPanic.then (NoPanic.block (NoPanic.then hN)))))) 5 34 (.pointer (some ⟨g3, 0, none⟩)) (by kernel_rfl) (fun _ => by kernel_rfl) hS205 ?_
      refine WD.load (NoPanic.then (NoPanic.block (NoPanic.then (NoPanic.then (NoPanic.block (NoPanic.then hN)))))) 4 23 (.pointer (some ⟨b209, o211 + k * 4, none⟩)) (.int .u32 e207.vip) 33 (by kernel_rfl) (by kernel_rfl) (fun _ hS_ => run_load1 rfl (by simpa [Nat.add_assoc] using Fr.cell hS_ (hC204.fr.cell (hc212 0 _ rfl) (by simp)) (by simp))) hS205 ?_
      refine WD.load (NoPanic.then (NoPanic.block (NoPanic.then (NoPanic.then (NoPanic.block (NoPanic.then hN)))))) 6 23 (.pointer (some ⟨g3, 0, none⟩)) (.int .u32 l.vip) 35 (by kernel_rfl) (by kernel_rfl) (fun _ hS_ => run_ld (Fr.has hS_ (hC204.get 0 rfl) (by simp)) rfl) hS205 ?_
      refine WD.pure (NoPanic.then (NoPanic.block (NoPanic.then (NoPanic.then (NoPanic.block (NoPanic.then hN)))))) 7 36 (.bool (e207.vip != l.vip)) (by kernel_rfl) (fun _ => by kernel_rfl) hS205 ?_
      refine WD.pure (NoPanic.then (NoPanic.block (NoPanic.then (NoPanic.then (NoPanic.block (NoPanic.then hN)))))) 8 37 (.bool (e207.vip != l.vip)) (by kernel_rfl) (fun _ => by kernel_rfl) hS205 ?_
      refine WD.test_at 37 (e207.vip != l.vip) rfl (fun t213b => ?_) (fun t213b => ?_)
      · -- e207.vip ≠ l.vip: true
        have t213 : e207.vip ≠ l.vip := by simpa using t213b
        refine WD.pure (NoPanic.then (NoPanic.block (NoPanic.then (NoPanic.then (NoPanic.block (NoPanic.then hN)))))) 9 38 (undef) (by kernel_rfl) (fun _ => by kernel_rfl) hS205 ?_
        refine WD.pure (NoPanic.then (NoPanic.block (NoPanic.then (NoPanic.then (NoPanic.block (NoPanic.then hN)))))) 10 39 (undef) (by kernel_rfl) (fun _ => by kernel_rfl) hS205 ?_
        refine WD.pure (NoPanic.then (NoPanic.block (NoPanic.then (NoPanic.then (NoPanic.block (NoPanic.then hN)))))) 11 40 (undef) (by kernel_rfl) (fun _ => by kernel_rfl) hS205 ?_
        refine WD.pure (NoPanic.then (NoPanic.block (NoPanic.then (NoPanic.then (NoPanic.block (NoPanic.then hN)))))) 12 41 (undef) (by kernel_rfl) (fun _ => by kernel_rfl) hS205 ?_
        refine WD.pure (NoPanic.then (NoPanic.block (NoPanic.then (NoPanic.then (NoPanic.block (NoPanic.then hN)))))) 13 42 (undef) (by kernel_rfl) (fun _ => by kernel_rfl) hS205 ?_
        refine WD.pure (NoPanic.then (NoPanic.block (NoPanic.then (NoPanic.then (NoPanic.block (NoPanic.then hN)))))) 14 43 (undef) (by kernel_rfl) (fun _ => by kernel_rfl) hS205 ?_
        refine WD.pure (NoPanic.then (NoPanic.block (NoPanic.then (NoPanic.then (NoPanic.block (NoPanic.then hN)))))) 15 44 (undef) (by kernel_rfl) (fun _ => by kernel_rfl) hS205 ?_
        refine WD.pure (NoPanic.then (NoPanic.block (NoPanic.then (NoPanic.then (NoPanic.block (NoPanic.then hN)))))) 16 45 (undef) (by kernel_rfl) (fun _ => by kernel_rfl) hS205 ?_
        refine WD.pure (NoPanic.then (NoPanic.block (NoPanic.then (NoPanic.then (NoPanic.block (NoPanic.then hN)))))) 17 46 (.bool true) (by kernel_rfl) (fun _ => by kernel_rfl) hS205 ?_
        refine WD.done (by kernel_rfl) ?_
        refine QX.then_normal (hK201 _ _ ?_)
        refine WC.cond_true rfl ?_
        refine WC.region ?_
        refine WL.runs 3 [(49, .int .i64 (k : Int)), (48, .slice A xs.length c), (47, .slice A5 n5 c5)] (fun _ => by kernel_rfl) ?_
        refine WL.index A xs.length c 50 .i64 (k : Int) b209 o211 k 4 (by kernel_rfl) hA210 (by omega) (by omega) (o211 + k * 4) (by first | (simp; done) | omega) ?_
        refine WL.load 27 (.pointer (some ⟨b209, o211 + k * 4, none⟩)) (.agg #[.int .u32 e207.vip, .int .i64 e207.first, .int .u32 e207.dip, .int .i64 e207.exp]) 51 (by kernel_rfl) (run_rdN (l := [.int .u32 e207.vip, .int .i64 e207.first, .int .u32 e207.dip, .int .i64 e207.exp]) rfl rfl (fun j u hu => by have hq_ := hC204.fr.cell (hc212 j u hu) (by simp); simpa [Nat.add_assoc] using hq_)) ?_
        refine WL.newM hC204 (fun b => .slice (some ⟨b, 0, none⟩) 1 1) (.cells #[.int .u32 e207.vip, .int .i64 e207.first, .int .u32 e207.dip, .int .i64 e207.exp] 27) 52 (fun _ => by kernel_rfl) (fun g218 w219 hb222 hF220 hC221 => ?_)
        have ho223 := own_fr ho206 hF220 (by simp)
        obtain ⟨v224, w225, hr226, ho227, hF228, hC229, hnil230, hsub231⟩ := app_run Tryd.prog hC221 0 (v := .slice A5 n5 c5) rfl 25 25 27 4 32 n5 1 1 (some ⟨g218, 0, none⟩) rfl ho223 [.int .u32 e207.vip, .int .i64 e207.first, .int .u32 e207.dip, .int .i64 e207.exp] rfl (srcOk.blk 1 (hC221.get 1 rfl)) rfl (by simp only [maxLen]; omega) (by omega)
        have ho235 := own_snoc (enc := encL) (ys := O) e207 ho227
        obtain ⟨A232, c233, rfl, hle234⟩ := own_form ho235
        refine WL.sem (Builtin.append_ #[25, 25] 25 #[.slice A5 n5 c5, .slice (some ⟨g218, 0, none⟩) 1 1]) 53 (.slice A232 (n5 + 1) c233) (by kernel_rfl) hr226 ?_
        refine WL.runs 1 [(5, .slice A232 (n5 + 1) c233)] (fun _ => by kernel_rfl) ?_
        refine WL.done rfl ?_
        refine QX.block_normal ?_
        refine QX.then_normal (hK29 _ _ ?_)
        refine WC.region ?_
        refine WL.runs 2 [(13, .int .i64 (IntKind.i64.wrap ((k : Int) + 1))), (12, .int .i64 (k : Int))] (fun _ => by kernel_rfl) ?_
        refine WL.recast (show (.int .i64 (IntKind.i64.wrap ((k : Int) + 1)) : Value) = .int .i64 ((k : Int) + 1) from by rw [wrap_in_i64 ((k : Int) + 1) (by omega) (by omega)]) ?_
        refine WL.runs 1 [(7, .int .i64 ((k : Int) + 1))] (fun _ => by kernel_rfl) ?_
        refine WL.done rfl ?_
        refine QX.then_normal ?_
        have hC236 := hC229.pick [0] [0] rfl rfl
        refine fun a_ ha_ => hK18 _ _ _ ?_ ⟨k + 1, A232, n5 + 1, c233, O ++ [e207], d, rfl, rfl, hC236, ho235, by omega, by omega, by rw [fold_snoc he208, ← hO]; simp [wstep, t213, t213b, t27, t27b, t39, t39b]⟩ a_ (ha_.weaken (sub_of ⟨rfl, rfl, rfl, rfl, rfl, rfl, rfl, trivial⟩))
        omega
      · -- e207.vip ≠ l.vip: false
        have t213 : e207.vip = l.vip := by simpa using t213b
        refine WD.pure (NoPanic.then (NoPanic.block (NoPanic.then (NoPanic.then (NoPanic.block (NoPanic.then hN)))))) 9 38 (.slice A xs.length c) (by kernel_rfl) (fun _ => by kernel_rfl) hS205 ?_
        refine WD.pure (NoPanic.then (NoPanic.block (NoPanic.then (NoPanic.then (NoPanic.block (NoPanic.then hN)))))) 10 39 (.int .i64 (k : Int)) (by kernel_rfl) (fun _ => by kernel_rfl) hS205 ?_
        refine WD.index (NoPanic.then (NoPanic.block (NoPanic.then (NoPanic.then (NoPanic.block (NoPanic.then hN)))))) 11 A xs.length c 40 .i64 (k : Int) b209 o211 k 4 (by kernel_rfl) (by kernel_rfl) hA210 (by omega) (by omega) (o211 + k * 4) (by first | (simp; done) | omega) hS205 ?_
        refine WD.pure (NoPanic.then (NoPanic.block (NoPanic.then (NoPanic.then (NoPanic.block (NoPanic.then hN)))))) 12 41 (.pointer (some ⟨b209, o211 + k * 4 + 1, none⟩)) (by kernel_rfl) (fun _ => by kernel_rfl) hS205 ?_
        refine WD.pure (NoPanic.then (NoPanic.block (NoPanic.then (NoPanic.then (NoPanic.block (NoPanic.then hN)))))) 14 43 (.pointer (some ⟨g3, 1, none⟩)) (by kernel_rfl) (fun _ => by kernel_rfl) hS205 ?_
        refine WD.load (NoPanic.then (NoPanic.block (NoPanic.then (NoPanic.then (NoPanic.block (NoPanic.then hN)))))) 13 3 (.pointer (some ⟨b209, o211 + k * 4 + 1, none⟩)) (.int .i64 e207.first) 42 (by kernel_rfl) (by kernel_rfl) (fun _ hS_ => run_load1 rfl (by simpa [Nat.add_assoc] using Fr.cell hS_ (hC204.fr.cell (hc212 1 _ rfl) (by simp)) (by simp))) hS205 ?_
        refine WD.load (NoPanic.then (NoPanic.block (NoPanic.then (NoPanic.then (NoPanic.block (NoPanic.then hN)))))) 15 3 (.pointer (some ⟨g3, 1, none⟩)) (.int .i64 l.first) 44 (by kernel_rfl) (by kernel_rfl) (fun _ hS_ => run_ld (Fr.has hS_ (hC204.get 0 rfl) (by simp)) rfl) hS205 ?_
        refine WD.pure (NoPanic.then (NoPanic.block (NoPanic.then (NoPanic.then (NoPanic.block (NoPanic.then hN)))))) 16 45 (.bool (e207.first != l.first)) (by kernel_rfl) (fun _ => by kernel_rfl) hS205 ?_
        refine WD.pure (NoPanic.then (NoPanic.block (NoPanic.then (NoPanic.then (NoPanic.block (NoPanic.then hN)))))) 17 46 (.bool (e207.first != l.first)) (by kernel_rfl) (fun _ => by kernel_rfl) hS205 ?_
        refine WD.done (by kernel_rfl) ?_
        refine QX.then_normal (hK201 _ _ ?_)
        refine WC.test_at 46 (e207.first != l.first) rfl (fun t241b => ?_) (fun t241b => ?_)
        · -- e207.first ≠ l.first: true
          have t241 : e207.first ≠ l.first := by simpa using t241b
          refine WC.cond_true rfl ?_
          refine WC.region ?_
          refine WL.runs 3 [(49, .int .i64 (k : Int)), (48, .slice A xs.length c), (47, .slice A5 n5 c5)] (fun _ => by kernel_rfl) ?_
          refine WL.index A xs.length c 50 .i64 (k : Int) b209 o211 k 4 (by kernel_rfl) hA210 (by omega) (by omega) (o211 + k * 4) (by first | (simp; done) | omega) ?_
          refine WL.load 27 (.pointer (some ⟨b209, o211 + k * 4, none⟩)) (.agg #[.int .u32 e207.vip, .int .i64 e207.first, .int .u32 e207.dip, .int .i64 e207.exp]) 51 (by kernel_rfl) (run_rdN (l := [.int .u32 e207.vip, .int .i64 e207.first, .int .u32 e207.dip, .int .i64 e207.exp]) rfl rfl (fun j u hu => by have hq_ := hC204.fr.cell (hc212 j u hu) (by simp); simpa [Nat.add_assoc] using hq_)) ?_
          refine WL.newM hC204 (fun b => .slice (some ⟨b, 0, none⟩) 1 1) (.cells #[.int .u32 e207.vip, .int .i64 e207.first, .int .u32 e207.dip, .int .i64 e207.exp] 27) 52 (fun _ => by kernel_rfl) (fun g246 w247 hb250 hF248 hC249 => ?_)
          have ho251 := own_fr ho206 hF248 (by simp)
          obtain ⟨v252, w253, hr254, ho255, hF256, hC257, hnil258, hsub259⟩ := app_run Tryd.prog hC249 0 (v := .slice A5 n5 c5) rfl 25 25 27 4 32 n5 1 1 (some ⟨g246, 0, none⟩) rfl ho251 [.int .u32 e207.vip, .int .i64 e207.first, .int .u32 e207.dip, .int .i64 e207.exp] rfl (srcOk.blk 1 (hC249.get 1 rfl)) rfl (by simp only [maxLen]; omega) (by omega)
          have ho263 := own_snoc (enc := encL) (ys := O) e207 ho255
          obtain ⟨A260, c261, rfl, hle262⟩ := own_form ho263
          refine WL.sem (Builtin.append_ #[25, 25] 25 #[.slice A5 n5 c5, .slice (some ⟨g246, 0, none⟩) 1 1]) 53 (.slice A260 (n5 + 1) c261) (by kernel_rfl) hr254 ?_
          refine WL.runs 1 [(5, .slice A260 (n5 + 1) c261)] (fun _ => by kernel_rfl) ?_
          refine WL.done rfl ?_
          refine QX.block_normal ?_
          refine QX.then_normal (hK29 _ _ ?_)
          refine WC.region ?_
          refine WL.runs 2 [(13, .int .i64 (IntKind.i64.wrap ((k : Int) + 1))), (12, .int .i64 (k : Int))] (fun _ => by kernel_rfl) ?_
          refine WL.recast (show (.int .i64 (IntKind.i64.wrap ((k : Int) + 1)) : Value) = .int .i64 ((k : Int) + 1) from by rw [wrap_in_i64 ((k : Int) + 1) (by omega) (by omega)]) ?_
          refine WL.runs 1 [(7, .int .i64 ((k : Int) + 1))] (fun _ => by kernel_rfl) ?_
          refine WL.done rfl ?_
          refine QX.then_normal ?_
          have hC264 := hC257.pick [0] [0] rfl rfl
          refine fun a_ ha_ => hK18 _ _ _ ?_ ⟨k + 1, A260, n5 + 1, c261, O ++ [e207], d, rfl, rfl, hC264, ho263, by omega, by omega, by rw [fold_snoc he208, ← hO]; simp [wstep, t213, t213b, t241, t241b, t27, t27b, t39, t39b]⟩ a_ (ha_.weaken (sub_of ⟨rfl, rfl, rfl, rfl, rfl, rfl, rfl, trivial⟩))
          omega
        · -- e207.first ≠ l.first: false
          have t241 : e207.first = l.first := by simpa using t241b
          refine WC.cond_false rfl ?_
          refine WC.skip ?_
          refine QX.block_normal ?_
          refine QX.then_normal (hK29 _ _ ?_)
          refine WC.region ?_
          refine WL.runs 2 [(13, .int .i64 (IntKind.i64.wrap ((k : Int) + 1))), (12, .int .i64 (k : Int))] (fun _ => by kernel_rfl) ?_
          refine WL.recast (show (.int .i64 (IntKind.i64.wrap ((k : Int) + 1)) : Value) = .int .i64 ((k : Int) + 1) from by rw [wrap_in_i64 ((k : Int) + 1) (by omega) (by omega)]) ?_
          refine WL.runs 1 [(7, .int .i64 ((k : Int) + 1))] (fun _ => by kernel_rfl) ?_
          refine WL.done rfl ?_
          refine QX.then_normal ?_
          have hC265 := hC204.pick [0] [0] rfl rfl
          refine fun a_ ha_ => hK18 _ _ _ ?_ ⟨k + 1, A5, n5, c5, O, d, rfl, rfl, hC265, ho206, by omega, by omega, by rw [fold_snoc he208, ← hO]; simp [wstep, t213, t213b, t241, t241b, t27, t27b, t39, t39b]⟩ a_ (ha_.weaken (sub_of ⟨rfl, rfl, rfl, rfl, rfl, rfl, rfl, trivial⟩))
          omega
  · -- (k : Int) < (xs.length : Int): false
    have t27 : (xs.length : Int) ≤ (k : Int) := by have q_ := of_decide_eq_false t27b; omega
    refine WC.cond_false rfl ?_
    refine WC.exit ?_
    refine QX.then_exit ?_
    refine QX.then_exit ?_
    refine QX.block_hit ?_
    refine QX.then_normal (hK13 _ _ ?_)
    refine WC.seq (fun K266 hK267 => ?_)
    refine WC.seq (fun K268 hK269 => ?_)
    refine WC.region ?_
    refine WL.runs 2 [(55, .bool !d), (54, .bool d)] (fun _ => by kernel_rfl) ?_
    refine WL.done rfl ?_
    refine QX.then_normal (hK269 _ _ ?_)
    refine WC.test_at 55 (!d) rfl (fun t270b => ?_) (fun t270b => ?_)
    · -- !d = true: true
      have t270 : d = false := by first | (simpa only [Bool.not_eq_true', Bool.not_eq_false'] using t270b) | simpa using t270b
      refine WC.cond_true rfl ?_
      refine WC.region ?_
      refine WL.runs 1 [(56, .slice A5 n5 c5)] (fun _ => by kernel_rfl) ?_
      refine WL.load 27 (.pointer (some ⟨g3, 0, none⟩)) (.agg #[.int .u32 l.vip, .int .i64 l.first, .int .u32 l.dip, .int .i64 l.exp]) 57 (by kernel_rfl) (run_ld (hC22.get 0 rfl) rfl) ?_
      refine WL.newM hC22 (fun b => .slice (some ⟨b, 0, none⟩) 1 1) (.cells #[.int .u32 l.vip, .int .i64 l.first, .int .u32 l.dip, .int .i64 l.exp] 27) 58 (fun _ => by kernel_rfl) (fun g271 w272 hb275 hF273 hC274 => ?_)
      have ho276 := own_fr hrow hF273 (by simp)
      obtain ⟨v277, w278, hr279, ho280, hF281, hC282, hnil283, hsub284⟩ := app_run Tryd.prog hC274 0 (v := .slice A5 n5 c5) rfl 25 25 27 4 32 n5 1 1 (some ⟨g271, 0, none⟩) rfl ho276 [.int .u32 l.vip, .int .i64 l.first, .int .u32 l.dip, .int .i64 l.exp] rfl (srcOk.blk 1 (hC274.get 1 rfl)) rfl (by simp only [maxLen]; omega) (by omega)
      have ho288 := own_snoc (enc := encL) (ys := O) l ho280
      obtain ⟨A285, c286, rfl, hle287⟩ := own_form ho288
      refine WL.sem (Builtin.append_ #[25, 25] 25 #[.slice A5 n5 c5, .slice (some ⟨g271, 0, none⟩) 1 1]) 59 (.slice A285 (n5 + 1) c286) (by kernel_rfl) hr279 ?_
      refine WL.runs 1 [(5, .slice A285 (n5 + 1) c286)] (fun _ => by kernel_rfl) ?_
      refine WL.done rfl ?_
      refine QX.then_normal (hK267 _ _ ?_)
      refine WC.seq (fun K289 hK290 => ?_)
      refine WC.region ?_
      refine WL.runs 2 [(4, .slice A285 (n5 + 1) c286), (60, .slice A285 (n5 + 1) c286)] (fun _ => by kernel_rfl) ?_
      refine WL.done rfl ?_
      refine QX.then_normal (hK290 _ _ ?_)
      refine WC.ret ?_
      refine (hret _ _ _ rfl ?_).1
      clear hN hret hret' hK290 hK269 hK267 hK26 hK24 hK15 hK13 hK11 hK9 hK2
      have hend_ := with_end hs hO (by omega)
      rw [t270] at hend_
      simp only [if_true, Bool.false_eq_true, if_false] at hend_
      have ho_ := ho288
      rw [hend_] at ho_
      have hc_ := own_count encL_len (by decide) ho_
      exact ⟨_, rfl, hC282.fr, by rw [hc_]; exact own_base ho_ (hC282.geF 0 rfl)⟩
    · -- !d = true: false
      have t270 : d = true := by first | (simpa only [Bool.not_eq_true', Bool.not_eq_false'] using t270b) | simpa using t270b
      refine WC.cond_false rfl ?_
      refine WC.skip ?_
      refine QX.then_normal (hK267 _ _ ?_)
      refine WC.seq (fun K291 hK292 => ?_)
      refine WC.region ?_
      refine WL.runs 2 [(4, .slice A5 n5 c5), (60, .slice A5 n5 c5)] (fun _ => by kernel_rfl) ?_
      refine WL.done rfl ?_
      refine QX.then_normal (hK292 _ _ ?_)
      refine WC.ret ?_
      refine (hret _ _ _ rfl ?_).1
      clear hN hret hret' hK292 hK269 hK267 hK26 hK24 hK15 hK13 hK11 hK9 hK2
      have hend_ := with_end hs hO (by omega)
      rw [t270] at hend_
      simp only [if_true, Bool.false_eq_true, if_false] at hend_
      have ho_ := hrow
      rw [hend_] at ho_
      have hc_ := own_count encL_len (by decide) ho_
      exact ⟨_, rfl, hC22.fr, by rw [hc_]; exact own_base ho_ (hC22.geF 0 rfl)⟩

end Go.Proofs.YtoambminolcgfaaDoor
