/- Contracts of functions of the program, each proved by a walk through its code; conditions stand in the statements. -/
import Derived.Test.YtelmklombehhkaaSbN13
namespace Go.Proofs.Ytelmklombehhkaa
set_option linter.unusedSimpArgs false
set_option linter.unusedVariables false
set_option linter.unusedSectionVars false
open Go Go.RowKit Go.Tw
set_option linter.unusedVariables false
set_option maxRecDepth 20000
theorem str_same {xs ys : List Int} (h1 : byteL xs) (h2 : byteL ys) (h : (!decide (strOfNums xs = strOfNums ys)) = false) : xs = ys := by
  have h3 : strOfNums xs = strOfNums ys := by simpa using h
  have h4 := strOf_dec h1 h2
  have h5 : decide (xs = ys) = true := by rw [← h4]; first | exact decide_eq_true h3 | (rw [h3]; simp)
  exact of_decide_eq_true h5
theorem str_diff {xs ys : List Int} (h1 : byteL xs) (h2 : byteL ys) (h : (!decide (strOfNums xs = strOfNums ys)) = true) : xs ≠ ys := fun e => by
  subst e; simp at h
set_option maxHeartbeats 1000000 in
theorem RUnlike_ct (A B : Option Addr) (c c2 : Nat) (ps qs : Mt) (w : World) (hA : Rd w 2 cellP A ps) (hB : Rd w 2 cellP B qs) (ha : rowsAt w ps) (hb : rowsAt w qs) (hl1 : ps.length ≤ 67108864) (hl2 : qs.length ≤ 67108864) : Calls Try.prog 41 #[.slice A ps.length c, .slice B qs.length c2] w fun e w' => e = .returned (.int .i64 ((unlA ps qs : Int) + (unlB ps qs : Int))) ∧ Fr w w' [] := by
  refine enterD (n := 58) Try.func41 rfl rfl (Nat.le_of_ble_eq_true rfl) ?_
  intro Q0 hN hret hret'
  have hC := Cx.start w
  refine WC.seq (fun K1 hK2 => ?_)
  refine WC.region ?_
  refine WL.runs 1 [(4, .int .i64 0)] (fun _ => by kernel_rfl) ?_
  refine WL.done rfl ?_
  refine QX.then_normal (hK2 _ _ ?_)
  refine WC.seq (fun K3 hK4 => ?_)
  refine WC.region ?_
  refine WL.runs 1 [(5, .int .i64 0)] (fun _ => by kernel_rfl) ?_
  refine WL.done rfl ?_
  refine QX.then_normal (hK4 _ _ ?_)
  refine WC.seq (fun K5 hK6 => ?_)
  refine WC.seq (fun K7 hK8 => ?_)
  refine WC.region ?_
  refine WL.runs 1 [(6, .int .i64 0)] (fun _ => by kernel_rfl) ?_
  refine WL.done rfl ?_
  refine QX.then_normal (hK8 _ _ ?_)
  refine WC.block ?_
  refine WC.loop (fun m_ E_ w_ => ∃ (i : Nat) (n : Int), m_ = ps.length - i ∧ E_ = [(0, .slice A ps.length c), (1, .slice B qs.length c2), (5, .int .i64 n), (6, .int .i64 (i : Int))] ∧ Cx w [] w_ [] [] ∧ (i ≤ ps.length ∧ n = (unlA (ps.take i) qs : Int))) ⟨_, _, ⟨0, 0, rfl, rfl, hC, Nat.zero_le _, rfl⟩, sub_of ⟨rfl, rfl, rfl, rfl, trivial⟩⟩ (fun m12 E_ w13 K9 hK10 hI11 => ?_)
  obtain ⟨i, n, rfl, rfl, hC14, hi, hn⟩ := hI11
  have hule_ := (unl_le (ps.take i) qs).1
  rw [List.length_take] at hule_
  refine WC.seq (fun K15 hK16 => ?_)
  refine WC.seq (fun K17 hK18 => ?_)
  refine WC.region ?_
  refine WL.runs 4 [(12, .bool (decide ((i : Int) < (ps.length : Int)))), (11, .int .i64 (ps.length : Int)), (10, .slice A ps.length c), (9, .int .i64 (i : Int))] (fun _ => by kernel_rfl) ?_
  refine WL.done rfl ?_
  refine QX.then_normal (hK18 _ _ ?_)
  refine WC.test_at 12 (decide ((i : Int) < (ps.length : Int))) rfl (fun t19b => ?_) (fun t19b => ?_)
  · -- (i : Int) < (ps.length : Int): true
    have t19 : (i : Int) < (ps.length : Int) := by have q_ := of_decide_eq_true t19b; omega
    refine WC.cond_true rfl ?_
    refine WC.skip ?_
    refine QX.then_normal (hK16 _ _ ?_)
    refine WC.seq (fun K20 hK21 => ?_)
    refine WC.block ?_
    refine WC.seq (fun K22 hK23 => ?_)
    refine WC.region ?_
    refine WL.runs 3 [(17, .int .i64 (i : Int)), (16, .slice A ps.length c), (15, .slice B qs.length c2)] (fun _ => by kernel_rfl) ?_
    obtain ⟨e24, he25⟩ := get_some (xs := ps) (i := i) (by omega)
    obtain ⟨b26, o28, hA27, hc29⟩ := hA.at_ _ _ he25
    have hpr_e24 := ha _ (List.mem_of_getElem? he25)
    have hpl_e24 := hpr_e24.len
    refine WL.index A ps.length c 18 .i64 (i : Int) b26 o28 i 2 (by kernel_rfl) hA27 (by omega) (by omega) (o28 + i * 2) (by first | (simp; done) | omega) ?_
    refine WL.runs 1 [(19, .pointer (some ⟨b26, o28 + i * 2, none⟩))] (fun _ => by kernel_rfl) ?_
    refine WL.load 9 (.pointer (some ⟨b26, o28 + i * 2, none⟩)) (.string e24.1) 20 (by kernel_rfl) (run_load1 rfl (by simpa [Nat.add_assoc] using hC14.fr.cell (hc29 0 _ rfl) (by simp))) ?_
    refine WL.call rfl rfl rfl rfl rfl (by kernel_rfl) (RFind_n B qs.length c2 qs e24.1 w13 (Rd.fr hB hC14.fr) rfl (by omega)) ?_
    rintro _ w32 ⟨r30, rfl, hF31, hfr34⟩
    have hC33 := hC14.call hF31
    rcases hfr34 with hnn40 | ⟨i35, x36, hx37, hk38, hpr39⟩
    · -- found: False
      refine ⟨_, rfl, ?_⟩
      refine WL.runs 1 [(7, .int .i64 (-1))] (fun _ => by kernel_rfl) ?_
      refine WL.done rfl ?_
      refine QX.then_normal (hK23 _ _ ?_)
      refine WC.seq (fun K41 hK42 => ?_)
      refine WC.drawC hC33 [] (by kernel_rfl) (fun w43 hF44 hC45 hS46 => ?_)
      refine WD.pure (NoPanic.then (NoPanic.block (NoPanic.then (NoPanic.then (NoPanic.block (NoPanic.then hN)))))) 0 22 (.int .i64 (-1)) (by kernel_rfl) (fun _ => by kernel_rfl) hS46 ?_
      refine WD.pure (NoPanic.then (NoPanic.block (NoPanic.then (NoPanic.then (NoPanic.block (NoPanic.then hN)))))) 1 23 (.bool true) (by kernel_rfl) (fun _ => by kernel_rfl) hS46 ?_
      refine WD.pure (NoPanic.then (NoPanic.block (NoPanic.then (NoPanic.then (NoPanic.block (NoPanic.then hN)))))) 2 24 (.bool true) (by kernel_rfl) (fun _ => by kernel_rfl) hS46 ?_
      refine WD.pure (NoPanic.then (NoPanic.block (NoPanic.then (NoPanic.then (NoPanic.block (NoPanic.then hN)))))) 3 25 (undef) (by kernel_rfl) (fun _ => by kernel_rfl) hS46 ?_
      refine WD.pure (NoPanic.then (NoPanic.block (NoPanic.then (NoPanic.then (NoPanic.block (NoPanic.then hN)))))) 4 26 (undef) (by kernel_rfl) (fun _ => by kernel_rfl) hS46 ?_
      refine WD.pure (NoPanic.then (NoPanic.block (NoPanic.then (NoPanic.then (NoPanic.block (NoPanic.then hN)))))) 5 27 (undef) (by kernel_rfl) (fun _ => by kernel_rfl) hS46 ?_
      refine WD.pure (NoPanic.then (NoPanic.block (NoPanic.then (NoPanic.then (NoPanic.block (NoPanic.then hN)))))) 6 28 (undef) (by kernel_rfl) (fun _ => by kernel_rfl) hS46 ?_
      refine WD.pure (NoPanic.then (NoPanic.block (NoPanic.then (NoPanic.then (NoPanic.block (NoPanic.then hN)))))) 7 29 (undef) (by kernel_rfl) (fun _ => by kernel_rfl) hS46 ?_
      refine WD.pure (NoPanic.then (NoPanic.block (NoPanic.then (NoPanic.then (NoPanic.block (NoPanic.then hN)))))) 8 30 (undef) (by kernel_rfl) (fun _ => by kernel_rfl) hS46 ?_
      refine WD.pure (NoPanic.then (NoPanic.block (NoPanic.then (NoPanic.then (NoPanic.block (NoPanic.then hN)))))) 9 31 (undef) (by kernel_rfl) (fun _ => by kernel_rfl) hS46 ?_
      refine WD.pure (NoPanic.then (NoPanic.block (NoPanic.then (NoPanic.then (NoPanic.block (NoPanic.then hN)))))) 10 32 (undef) (by kernel_rfl) (fun _ => by kernel_rfl) hS46 ?_
      refine WD.pure (NoPanic.then (NoPanic.block (NoPanic.then (NoPanic.then (NoPanic.block (NoPanic.then hN)))))) 11 33 (undef) (by kernel_rfl) (fun _ => by kernel_rfl) hS46 ?_
      refine WD.pure (NoPanic.then (NoPanic.block (NoPanic.then (NoPanic.then (NoPanic.block (NoPanic.then hN)))))) 12 34 (undef) (by kernel_rfl) (fun _ => by kernel_rfl) hS46 ?_
      refine WD.pure (NoPanic.then (NoPanic.block (NoPanic.then (NoPanic.then (NoPanic.block (NoPanic.then hN)))))) 13 35 (undef) (by kernel_rfl) (fun _ => by kernel_rfl) hS46 ?_
      refine WD.pure (NoPanic.then (NoPanic.block (NoPanic.then (NoPanic.then (NoPanic.block (NoPanic.then hN)))))) 14 36 (undef) (by kernel_rfl) (fun _ => by kernel_rfl) hS46 ?_
      refine WD.pure (NoPanic.then (NoPanic.block (NoPanic.then (NoPanic.then (NoPanic.block (NoPanic.then hN)))))) 15 37 (undef) (by kernel_rfl) (fun _ => by kernel_rfl) hS46 ?_
      refine WD.pure (NoPanic.then (NoPanic.block (NoPanic.then (NoPanic.then (NoPanic.block (NoPanic.then hN)))))) 16 38 (.bool true) (by kernel_rfl) (fun _ => by kernel_rfl) hS46 ?_
      refine WD.done (by kernel_rfl) ?_
      refine QX.then_normal (hK42 _ _ ?_)
      refine WC.cond_true rfl ?_
      refine WC.region ?_
      refine WL.runs 2 [(40, .int .i64 (IntKind.i64.wrap (n + 1))), (39, .int .i64 n)] (fun _ => by kernel_rfl) ?_
      refine WL.recast (show (.int .i64 (IntKind.i64.wrap (n + 1)) : Value) = .int .i64 (n + 1) from by rw [wrap_in_i64 (n + 1) (by omega) (by omega)]) ?_
      refine WL.runs 1 [(5, .int .i64 (n + 1))] (fun _ => by kernel_rfl) ?_
      refine WL.done rfl ?_
      refine QX.block_normal ?_
      refine QX.then_normal (hK21 _ _ ?_)
      refine WC.region ?_
      refine WL.runs 2 [(14, .int .i64 (IntKind.i64.wrap ((i : Int) + 1))), (13, .int .i64 (i : Int))] (fun _ => by kernel_rfl) ?_
      refine WL.recast (show (.int .i64 (IntKind.i64.wrap ((i : Int) + 1)) : Value) = .int .i64 ((i : Int) + 1) from by rw [wrap_in_i64 ((i : Int) + 1) (by omega) (by omega)]) ?_
      refine WL.runs 1 [(6, .int .i64 ((i : Int) + 1))] (fun _ => by kernel_rfl) ?_
      refine WL.done rfl ?_
      refine QX.then_normal ?_
      have hC47 := hC45.pick [] [] rfl rfl
      refine fun a_ ha_ => hK10 _ _ _ ?_ ⟨i + 1, n + 1, rfl, rfl, hC47, by omega, by rw [unlA_snoc he25, if_neg (by rw [ct_look, none_look hnn40]; exact fun h_ => nomatch h_)]; omega⟩ a_ (ha_.weaken (sub_of ⟨rfl, rfl, rfl, rfl, trivial⟩))
      omega
    · -- found: True
      have hil_ := (List.getElem?_eq_some_iff.1 hx37).1
      refine ⟨_, rfl, ?_⟩
      refine WL.runs 1 [(7, .int .i64 (i35 : Int))] (fun _ => by kernel_rfl) ?_
      refine WL.done rfl ?_
      refine QX.then_normal (hK23 _ _ ?_)
      refine WC.seq (fun K48 hK49 => ?_)
      refine WC.drawC hC33 [] (by kernel_rfl) (fun w50 hF51 hC52 hS53 => ?_)
      refine WD.pure (NoPanic.then (NoPanic.block (NoPanic.then (NoPanic.then (NoPanic.block (NoPanic.then hN)))))) 0 22 (.int .i64 (i35 : Int)) (by kernel_rfl) (fun _ => by kernel_rfl) hS53 ?_
      refine WD.pure (NoPanic.then (NoPanic.block (NoPanic.then (NoPanic.then (NoPanic.block (NoPanic.then hN)))))) 1 23 (.bool (decide ((i35 : Int) < 0))) (by kernel_rfl) (fun _ => by kernel_rfl) hS53 ?_
      refine WD.pure (NoPanic.then (NoPanic.block (NoPanic.then (NoPanic.then (NoPanic.block (NoPanic.then hN)))))) 2 24 (.bool (decide ((i35 : Int) < 0))) (by kernel_rfl) (fun _ => by kernel_rfl) hS53 ?_
      refine WD.know 24 (.bool (decide ((i35 : Int) < 0))) (.bool false) rfl (congrArg Value.bool (by exact decide_eq_false (by omega))) ?_
      refine WD.pure (NoPanic.then (NoPanic.block (NoPanic.then (NoPanic.then (NoPanic.block (NoPanic.then hN)))))) 3 25 (.slice B qs.length c2) (by kernel_rfl) (fun _ => by kernel_rfl) hS53 ?_
      refine WD.pure (NoPanic.then (NoPanic.block (NoPanic.then (NoPanic.then (NoPanic.block (NoPanic.then hN)))))) 4 26 (.int .i64 (i35 : Int)) (by kernel_rfl) (fun _ => by kernel_rfl) hS53 ?_
      obtain ⟨e54, he55⟩ := get_some (xs := qs) (i := i35) (by omega)
      obtain ⟨b56, o58, hA57, hc59⟩ := hB.at_ _ _ he55
      have hpr_e54 := hb _ (List.mem_of_getElem? he55)
      have hpl_e54 := hpr_e54.len
      refine WD.index (NoPanic.then (NoPanic.block (NoPanic.then (NoPanic.then (NoPanic.block (NoPanic.then hN)))))) 5 B qs.length c2 27 .i64 (i35 : Int) b56 o58 i35 2 (by kernel_rfl) (by kernel_rfl) hA57 (by omega) (by omega) (o58 + i35 * 2) (by first | (simp; done) | omega) hS53 ?_
      refine WD.pure (NoPanic.then (NoPanic.block (NoPanic.then (NoPanic.then (NoPanic.block (NoPanic.then hN)))))) 6 28 (.pointer (some ⟨b56, o58 + i35 * 2 + 1, none⟩)) (by kernel_rfl) (fun _ => by kernel_rfl) hS53 ?_
      refine WD.pure (NoPanic.then (NoPanic.block (NoPanic.then (NoPanic.then (NoPanic.block (NoPanic.then hN)))))) 9 31 (.slice A ps.length c) (by kernel_rfl) (fun _ => by kernel_rfl) hS53 ?_
      refine WD.pure (NoPanic.then (NoPanic.block (NoPanic.then (NoPanic.then (NoPanic.block (NoPanic.then hN)))))) 10 32 (.int .i64 (i : Int)) (by kernel_rfl) (fun _ => by kernel_rfl) hS53 ?_
      refine WD.index (NoPanic.then (NoPanic.block (NoPanic.then (NoPanic.then (NoPanic.block (NoPanic.then hN)))))) 11 A ps.length c 33 .i64 (i : Int) b26 o28 i 2 (by kernel_rfl) (by kernel_rfl) hA27 (by omega) (by omega) (o28 + i * 2) (by first | (simp; done) | omega) hS53 ?_
      refine WD.pure (NoPanic.then (NoPanic.block (NoPanic.then (NoPanic.then (NoPanic.block (NoPanic.then hN)))))) 12 34 (.pointer (some ⟨b26, o28 + i * 2 + 1, none⟩)) (by kernel_rfl) (fun _ => by kernel_rfl) hS53 ?_
      refine WD.load (NoPanic.then (NoPanic.block (NoPanic.then (NoPanic.then (NoPanic.block (NoPanic.then hN)))))) 7 22 (.pointer (some ⟨b56, o58 + i35 * 2 + 1, none⟩)) (.slice e54.2.a e54.2.n e54.2.c) 29 (by kernel_rfl) (by kernel_rfl) (fun _ hS_ => run_load1 rfl (by simpa [Nat.add_assoc] using Fr.cell hS_ (hC52.fr.cell (hc59 1 _ rfl) (by simp)) (by simp))) hS53 ?_
      refine WD.semP (NoPanic.then (NoPanic.block (NoPanic.then (NoPanic.then (NoPanic.block (NoPanic.then hN)))))) 8 (convert 22 9 (.slice e54.2.a e54.2.n e54.2.c)) 30 (.string (strOfNums e54.2.xs)) (by kernel_rfl) (by kernel_rfl) (fun w_ hS_ => run_bytes_str rfl rfl rfl (Rd.fr (Rd.fr hpr_e54.rd hC52.fr) hS_) (by first | rfl | assumption | (simp; done))) hS53 ?_
      refine WD.load (NoPanic.then (NoPanic.block (NoPanic.then (NoPanic.then (NoPanic.block (NoPanic.then hN)))))) 13 22 (.pointer (some ⟨b26, o28 + i * 2 + 1, none⟩)) (.slice e24.2.a e24.2.n e24.2.c) 35 (by kernel_rfl) (by kernel_rfl) (fun _ hS_ => run_load1 rfl (by simpa [Nat.add_assoc] using Fr.cell hS_ (hC52.fr.cell (hc29 1 _ rfl) (by simp)) (by simp))) hS53 ?_
      refine WD.semP (NoPanic.then (NoPanic.block (NoPanic.then (NoPanic.then (NoPanic.block (NoPanic.then hN)))))) 14 (convert 22 9 (.slice e24.2.a e24.2.n e24.2.c)) 36 (.string (strOfNums e24.2.xs)) (by kernel_rfl) (by kernel_rfl) (fun w_ hS_ => run_bytes_str rfl rfl rfl (Rd.fr (Rd.fr hpr_e24.rd hC52.fr) hS_) (by first | rfl | assumption | (simp; done))) hS53 ?_
      refine WD.pure (NoPanic.then (NoPanic.block (NoPanic.then (NoPanic.then (NoPanic.block (NoPanic.then hN)))))) 15 37 (.bool (!((strOfNums e54.2.xs).toList == (strOfNums e24.2.xs).toList))) (by kernel_rfl) (fun _ => by kernel_rfl) hS53 ?_
      refine WD.recast (show (.bool (!((strOfNums e54.2.xs).toList == (strOfNums e24.2.xs).toList)) : Value) = .bool (!decide ((strOfNums e54.2.xs) = (strOfNums e24.2.xs))) from by rw [str_eql]) ?_
      refine WD.pure (NoPanic.then (NoPanic.block (NoPanic.then (NoPanic.then (NoPanic.block (NoPanic.then hN)))))) 16 38 (.bool (!decide ((strOfNums e54.2.xs) = (strOfNums e24.2.xs)))) (by kernel_rfl) (fun _ => by kernel_rfl) hS53 ?_
      refine WD.done (by kernel_rfl) ?_
      refine QX.then_normal (hK49 _ _ ?_)
      refine WC.test_at 38 (!decide ((strOfNums e54.2.xs) = (strOfNums e24.2.xs))) rfl (fun t64b => ?_) (fun t64b => ?_)
      · -- (strOfNums e54.2.xs) ≠ (strOfNums e24.2.xs): true
        have t64 : (strOfNums e54.2.xs) ≠ (strOfNums e24.2.xs) := by simpa using t64b
        refine WC.cond_true rfl ?_
        refine WC.region ?_
        refine WL.runs 2 [(40, .int .i64 (IntKind.i64.wrap (n + 1))), (39, .int .i64 n)] (fun _ => by kernel_rfl) ?_
        refine WL.recast (show (.int .i64 (IntKind.i64.wrap (n + 1)) : Value) = .int .i64 (n + 1) from by rw [wrap_in_i64 (n + 1) (by omega) (by omega)]) ?_
        refine WL.runs 1 [(5, .int .i64 (n + 1))] (fun _ => by kernel_rfl) ?_
        refine WL.done rfl ?_
        refine QX.block_normal ?_
        refine QX.then_normal (hK21 _ _ ?_)
        refine WC.region ?_
        refine WL.runs 2 [(14, .int .i64 (IntKind.i64.wrap ((i : Int) + 1))), (13, .int .i64 (i : Int))] (fun _ => by kernel_rfl) ?_
        refine WL.recast (show (.int .i64 (IntKind.i64.wrap ((i : Int) + 1)) : Value) = .int .i64 ((i : Int) + 1) from by rw [wrap_in_i64 ((i : Int) + 1) (by omega) (by omega)]) ?_
        refine WL.runs 1 [(6, .int .i64 ((i : Int) + 1))] (fun _ => by kernel_rfl) ?_
        refine WL.done rfl ?_
        refine QX.then_normal ?_
        have hC65 := hC52.pick [] [] rfl rfl
        have hxe_ := Option.some.inj (hx37.symm.trans he55)
        have hlk_ : lookL (ct qs) e24.1 = some e54.2.xs := by rw [ct_look, find_look hx37 hk38 hpr39, hxe_]; rfl
        refine fun a_ ha_ => hK10 _ _ _ ?_ ⟨i + 1, n + 1, rfl, rfl, hC65, by omega, by rw [unlA_snoc he25, if_neg (by rw [hlk_]; exact fun h_ => str_diff hpr_e54.byt hpr_e24.byt t64b (Option.some.inj h_))]; omega⟩ a_ (ha_.weaken (sub_of ⟨rfl, rfl, rfl, rfl, trivial⟩))
        omega
      · -- (strOfNums e54.2.xs) ≠ (strOfNums e24.2.xs): false
        have t64 : (strOfNums e54.2.xs) = (strOfNums e24.2.xs) := by simpa using t64b
        refine WC.cond_false rfl ?_
        refine WC.skip ?_
        refine QX.block_normal ?_
        refine QX.then_normal (hK21 _ _ ?_)
        refine WC.region ?_
        refine WL.runs 2 [(14, .int .i64 (IntKind.i64.wrap ((i : Int) + 1))), (13, .int .i64 (i : Int))] (fun _ => by kernel_rfl) ?_
        refine WL.recast (show (.int .i64 (IntKind.i64.wrap ((i : Int) + 1)) : Value) = .int .i64 ((i : Int) + 1) from by rw [wrap_in_i64 ((i : Int) + 1) (by omega) (by omega)]) ?_
        refine WL.runs 1 [(6, .int .i64 ((i : Int) + 1))] (fun _ => by kernel_rfl) ?_
        refine WL.done rfl ?_
        refine QX.then_normal ?_
        have hC66 := hC52.pick [] [] rfl rfl
        have hxe_ := Option.some.inj (hx37.symm.trans he55)
        have hlk_ : lookL (ct qs) e24.1 = some e54.2.xs := by rw [ct_look, find_look hx37 hk38 hpr39, hxe_]; rfl
        refine fun a_ ha_ => hK10 _ _ _ ?_ ⟨i + 1, n, rfl, rfl, hC66, by omega, by rw [unlA_snoc he25, if_pos (by rw [hlk_]; exact congrArg some (str_same hpr_e54.byt hpr_e24.byt t64b))]; omega⟩ a_ (ha_.weaken (sub_of ⟨rfl, rfl, rfl, rfl, trivial⟩))
        omega
  · -- (i : Int) < (ps.length : Int): false
    have t19 : (ps.length : Int) ≤ (i : Int) := by have q_ := of_decide_eq_false t19b; omega
    refine WC.cond_false rfl ?_
    refine WC.exit ?_
    refine QX.then_exit ?_
    refine QX.then_exit ?_
    refine QX.block_hit ?_
    refine QX.then_normal (hK6 _ _ ?_)
    refine WC.seq (fun K67 hK68 => ?_)
    refine WC.seq (fun K69 hK70 => ?_)
    refine WC.region ?_
    refine WL.runs 1 [(8, .int .i64 0)] (fun _ => by kernel_rfl) ?_
    refine WL.done rfl ?_
    refine QX.then_normal (hK70 _ _ ?_)
    refine WC.block ?_
    refine WC.loop (fun m_ E_ w_ => ∃ (j : Nat) (n : Int), m_ = qs.length - j ∧ E_ = [(0, .slice A ps.length c), (1, .slice B qs.length c2), (5, .int .i64 n), (8, .int .i64 (j : Int))] ∧ Cx w [] w_ [] [] ∧ (j ≤ qs.length ∧ n = (unlA ps qs : Int) + (unlB ps (qs.take j) : Int))) ⟨_, _, ⟨0, n, rfl, rfl, hC14, Nat.zero_le _, (by rw [hn, take_all_of (by omega)]; simp [unlB])⟩, sub_of ⟨rfl, rfl, rfl, rfl, trivial⟩⟩ (fun m74 E_ w75 K71 hK72 hI73 => ?_)
    obtain ⟨j, n, rfl, rfl, hC76, hj, hn⟩ := hI73
    have hulA_ := (unl_le ps qs).1
    have hule_ := (unl_le ps (qs.take j)).2
    rw [List.length_take] at hule_
    refine WC.seq (fun K77 hK78 => ?_)
    refine WC.seq (fun K79 hK80 => ?_)
    refine WC.region ?_
    refine WL.runs 4 [(44, .bool (decide ((j : Int) < (qs.length : Int)))), (43, .int .i64 (qs.length : Int)), (42, .slice B qs.length c2), (41, .int .i64 (j : Int))] (fun _ => by kernel_rfl) ?_
    refine WL.done rfl ?_
    refine QX.then_normal (hK80 _ _ ?_)
    refine WC.test_at 44 (decide ((j : Int) < (qs.length : Int))) rfl (fun t81b => ?_) (fun t81b => ?_)
    · -- (j : Int) < (qs.length : Int): true
      have t81 : (j : Int) < (qs.length : Int) := by have q_ := of_decide_eq_true t81b; omega
      refine WC.cond_true rfl ?_
      refine WC.skip ?_
      refine QX.then_normal (hK78 _ _ ?_)
      refine WC.seq (fun K82 hK83 => ?_)
      refine WC.block ?_
      refine WC.seq (fun K84 hK85 => ?_)
      refine WC.region ?_
      refine WL.runs 3 [(49, .int .i64 (j : Int)), (48, .slice B qs.length c2), (47, .slice A ps.length c)] (fun _ => by kernel_rfl) ?_
      obtain ⟨e86, he87⟩ := get_some (xs := qs) (i := j) (by omega)
      obtain ⟨b88, o90, hA89, hc91⟩ := hB.at_ _ _ he87
      have hpr_e86 := hb _ (List.mem_of_getElem? he87)
      have hpl_e86 := hpr_e86.len
      refine WL.index B qs.length c2 50 .i64 (j : Int) b88 o90 j 2 (by kernel_rfl) hA89 (by omega) (by omega) (o90 + j * 2) (by first | (simp; done) | omega) ?_
      refine WL.runs 1 [(51, .pointer (some ⟨b88, o90 + j * 2, none⟩))] (fun _ => by kernel_rfl) ?_
      refine WL.load 9 (.pointer (some ⟨b88, o90 + j * 2, none⟩)) (.string e86.1) 52 (by kernel_rfl) (run_load1 rfl (by simpa [Nat.add_assoc] using hC76.fr.cell (hc91 0 _ rfl) (by simp))) ?_
      refine WL.call rfl rfl rfl rfl rfl (by kernel_rfl) (RFind_n A ps.length c ps e86.1 w75 (Rd.fr hA hC76.fr) rfl (by omega)) ?_
      rintro _ w94 ⟨r92, rfl, hF93, hfr96⟩
      have hC95 := hC76.call hF93
      rcases hfr96 with hnn102 | ⟨i97, x98, hx99, hk100, hpr101⟩
      · -- found: False
        refine ⟨_, rfl, ?_⟩
        refine WL.runs 1 [(54, .bool true)] (fun _ => by kernel_rfl) ?_
        refine WL.done rfl ?_
        refine QX.then_normal (hK85 _ _ ?_)
        refine WC.cond_true rfl ?_
        refine WC.region ?_
        refine WL.runs 2 [(56, .int .i64 (IntKind.i64.wrap (n + 1))), (55, .int .i64 n)] (fun _ => by kernel_rfl) ?_
        refine WL.recast (show (.int .i64 (IntKind.i64.wrap (n + 1)) : Value) = .int .i64 (n + 1) from by rw [wrap_in_i64 (n + 1) (by omega) (by omega)]) ?_
        refine WL.runs 1 [(5, .int .i64 (n + 1))] (fun _ => by kernel_rfl) ?_
        refine WL.done rfl ?_
        refine QX.block_normal ?_
        refine QX.then_normal (hK83 _ _ ?_)
        refine WC.region ?_
        refine WL.runs 2 [(46, .int .i64 (IntKind.i64.wrap ((j : Int) + 1))), (45, .int .i64 (j : Int))] (fun _ => by kernel_rfl) ?_
        refine WL.recast (show (.int .i64 (IntKind.i64.wrap ((j : Int) + 1)) : Value) = .int .i64 ((j : Int) + 1) from by rw [wrap_in_i64 ((j : Int) + 1) (by omega) (by omega)]) ?_
        refine WL.runs 1 [(8, .int .i64 ((j : Int) + 1))] (fun _ => by kernel_rfl) ?_
        refine WL.done rfl ?_
        refine QX.then_normal ?_
        have hC103 := hC95.pick [] [] rfl rfl
        refine fun a_ ha_ => hK72 _ _ _ ?_ ⟨j + 1, n + 1, rfl, rfl, hC103, by omega, by rw [unlB_snoc he87, if_pos (by rw [ct_look, none_look hnn102]; rfl)]; omega⟩ a_ (ha_.weaken (sub_of ⟨rfl, rfl, rfl, rfl, trivial⟩))
        omega
      · -- found: True
        have hil_ := (List.getElem?_eq_some_iff.1 hx99).1
        refine ⟨_, rfl, ?_⟩
        refine WL.runs 1 [(54, .bool (decide ((i97 : Int) < 0)))] (fun _ => by kernel_rfl) ?_
        refine WL.done rfl ?_
        refine QX.then_normal (hK85 _ _ ?_)
        refine WC.know 54 (.bool (decide ((i97 : Int) < 0))) (.bool false) rfl (congrArg Value.bool (by exact decide_eq_false (by omega))) ?_
        refine WC.cond_false rfl ?_
        refine WC.skip ?_
        refine QX.block_normal ?_
        refine QX.then_normal (hK83 _ _ ?_)
        refine WC.region ?_
        refine WL.runs 2 [(46, .int .i64 (IntKind.i64.wrap ((j : Int) + 1))), (45, .int .i64 (j : Int))] (fun _ => by kernel_rfl) ?_
        refine WL.recast (show (.int .i64 (IntKind.i64.wrap ((j : Int) + 1)) : Value) = .int .i64 ((j : Int) + 1) from by rw [wrap_in_i64 ((j : Int) + 1) (by omega) (by omega)]) ?_
        refine WL.runs 1 [(8, .int .i64 ((j : Int) + 1))] (fun _ => by kernel_rfl) ?_
        refine WL.done rfl ?_
        refine QX.then_normal ?_
        have hC104 := hC95.pick [] [] rfl rfl
        refine fun a_ ha_ => hK72 _ _ _ ?_ ⟨j + 1, n, rfl, rfl, hC104, by omega, by rw [unlB_snoc he87, if_neg (by rw [ct_look, find_look hx99 hk100 hpr101]; exact fun h_ => nomatch h_)]; omega⟩ a_ (ha_.weaken (sub_of ⟨rfl, rfl, rfl, rfl, trivial⟩))
        omega
    · -- (j : Int) < (qs.length : Int): false
      have t81 : (qs.length : Int) ≤ (j : Int) := by have q_ := of_decide_eq_false t81b; omega
      refine WC.cond_false rfl ?_
      refine WC.exit ?_
      refine QX.then_exit ?_
      refine QX.then_exit ?_
      refine QX.block_hit ?_
      refine QX.then_normal (hK68 _ _ ?_)
      refine WC.seq (fun K105 hK106 => ?_)
      refine WC.region ?_
      refine WL.runs 2 [(4, .int .i64 n), (57, .int .i64 n)] (fun _ => by kernel_rfl) ?_
      refine WL.done rfl ?_
      refine QX.then_normal (hK106 _ _ ?_)
      refine WC.ret ?_
      refine (hret _ _ _ rfl ?_).1
      clear hN hret hret' hK106 hK80 hK78 hK70 hK68 hK18 hK16 hK8 hK6 hK4 hK2
      rw [take_all_of (by omega)] at hn
      exact ⟨by show Ending.returned (.int .i64 n) = _; rw [hn], hC76.fr⟩

theorem RUnlike_n (A : Option Addr) (n c : Nat) (B : Option Addr) (n2 c2 : Nat) (ps qs : Mt) (w : World) (hA : Rd w 2 cellP A ps) (hB : Rd w 2 cellP B qs) (h1 : ps.length = n) (h2 : qs.length = n2) (ha : rowsAt w ps) (hb : rowsAt w qs) (hl1 : ps.length ≤ 67108864) (hl2 : qs.length ≤ 67108864) : Calls Try.prog 41 #[.slice A n c, .slice B n2 c2] w fun e w' => e = .returned (.int .i64 ((unlA ps qs : Int) + (unlB ps qs : Int))) ∧ Fr w w' [] := by subst h1 h2; exact RUnlike_ct A B c c2 ps qs w hA hB ha hb hl1 hl2
theorem RSync_ct (R : List Nat) (p : Nat) (ps qs : Mt) (size : Int)  (w : World) (ht : docAt w R p ps qs size) (hu1 : usedL (ct ps) ≤ 67108864) (hl1 : ps.length ≤ 67108864) (hl2 : qs.length ≤ 67108864) : Calls Try.prog 27 #[.pointer (some ⟨p, 0, none⟩)] w fun e w' => e = .returned (.int .i64 ((unlA ps qs : Int) + (unlB ps qs : Int))) ∧ Fr w w' (p :: R) ∧ docAt w' R p ps ps size := by
  refine enterD (n := 21) Try.func27 rfl rfl (Nat.le_of_ble_eq_true rfl) ?_
  intro Q0 hN hret hret'
  have ht0 := ht
  obtain ⟨A1, c1, A2, c2, hp_, hr1_, hr2_, hi1_, hi2_, hb1_, hb2_, hpR_, hlt_⟩ := ht
  have hC := Cx.openR hp_ hlt_ hpR_
  refine WC.seq (fun K1 hK2 => ?_)
  refine WC.region ?_
  refine WL.runs 1 [(2, .int .i64 0)] (fun _ => by kernel_rfl) ?_
  refine WL.done rfl ?_
  refine QX.then_normal (hK2 _ _ ?_)
  refine WC.seq (fun K3 hK4 => ?_)
  refine WC.drawC hC [] (by kernel_rfl) (fun w5 hF6 hC7 hS8 => ?_)
  have ho9 := own_fr hr1_ hF6 (by simp)
  have ho10 := own_fr hr2_ hF6 (by simp)
  have hf11 := rowsIn_fr hi1_ hF6 (by simp)
  have hf12 := rowsIn_fr hi2_ hF6 (by simp)
  refine WD.pure (NoPanic.then hN) 0 4 (.pointer (some ⟨p, 0, none⟩)) (by kernel_rfl) (fun _ => by kernel_rfl) hS8 ?_
  refine WD.pure (NoPanic.then hN) 1 5 (.pointer (some ⟨p, 0, none⟩)) (by kernel_rfl) (fun _ => by kernel_rfl) hS8 ?_
  refine WD.pure (NoPanic.then hN) 2 6 (.pointer (some ⟨p, 0, none⟩)) (by kernel_rfl) (fun _ => by kernel_rfl) hS8 ?_
  refine WD.pure (NoPanic.then hN) 4 8 (.pointer (some ⟨p, 0, none⟩)) (by kernel_rfl) (fun _ => by kernel_rfl) hS8 ?_
  refine WD.pure (NoPanic.then hN) 5 9 (.pointer (some ⟨p, 0, none⟩)) (by kernel_rfl) (fun _ => by kernel_rfl) hS8 ?_
  refine WD.pure (NoPanic.then hN) 6 10 (.pointer (some ⟨p, 1, none⟩)) (by kernel_rfl) (fun _ => by kernel_rfl) hS8 ?_
  refine WD.load (NoPanic.then hN) 3 50 (.pointer (some ⟨p, 0, none⟩)) (.slice A1 ps.length c1) 7 (by kernel_rfl) (by kernel_rfl) (fun _ hS_ => run_ld (Fr.has hS_ (hC7.get 0 rfl) (by simp)) rfl) hS8 ?_
  refine WD.load (NoPanic.then hN) 7 50 (.pointer (some ⟨p, 1, none⟩)) (.slice A2 qs.length c2) 11 (by kernel_rfl) (by kernel_rfl) (fun _ hS_ => run_ld (Fr.has hS_ (hC7.get 0 rfl) (by simp)) rfl) hS8 ?_
  refine WD.call 8 (by kernel_rfl) rfl rfl rfl rfl rfl (by kernel_rfl) (RUnlike_n A1 ps.length c1 A2 qs.length c2 ps qs w5 (own_rd ho9 cellP_len (by decide)) (own_rd ho10 cellP_len (by decide)) (own_count cellP_len (by decide) ho9) (own_count cellP_len (by decide) ho10) hf11.1 hf12.1 (by omega) (by omega)) ?_
  rintro _ w14 ⟨rfl, hF13⟩
  have hS16 := hS8.trans hF13 (by simp)
  refine ⟨_, rfl, hS16, ?_⟩
  have hC15 := hC7.call hF13
  have ho17 := own_fr ho9 hF13 (by simp)
  have ho18 := own_fr ho10 hF13 (by simp)
  have hf19 := rowsIn_fr hf11 hF13 (by simp)
  have hf20 := rowsIn_fr hf12 hF13 (by simp)
  refine WD.pure (NoPanic.then hN) 9 3 (.int .i64 ((unlA ps qs : Int) + (unlB ps qs : Int))) (by kernel_rfl) (fun _ => by kernel_rfl) hS16 ?_
  refine WD.done (by kernel_rfl) ?_
  refine QX.then_normal (hK4 _ _ ?_)
  refine WC.seq (fun K21 hK22 => ?_)
  refine WC.region ?_
  refine WL.runs 4 [(16, .pointer (some ⟨p, 0, none⟩)), (15, .pointer (some ⟨p, 0, none⟩)), (14, .pointer (some ⟨p, 0, none⟩)), (13, .pointer (some ⟨p, 0, none⟩))] (fun _ => by kernel_rfl) ?_
  refine WL.load 50 (.pointer (some ⟨p, 0, none⟩)) (.slice A1 ps.length c1) 17 (by kernel_rfl) (run_ld (hC15.get 0 rfl) rfl) ?_
  refine WL.runs 2 [(19, .pointer (some ⟨p, 1, none⟩)), (18, .pointer (some ⟨p, 0, none⟩))] (fun _ => by kernel_rfl) ?_
  refine WL.storeM (c' := #[.slice A1 ps.length c1, .slice A1 ps.length c1, .int .i64 size]) hC15 0 50 p 1 (.slice A1 ps.length c1) (by kernel_rfl) rfl (by kernel_rfl) (fun w23 hF25 hC26 => ?_)
  have ho27 := own_fr ho17 hF25 (fun x_ hx_ => (hC15.apartM 0 0 rfl rfl) x_ (hb1_ x_ hx_))
  have ho28 := own_fr ho18 hF25 (fun x_ hx_ => (hC15.apartM 0 0 rfl rfl) x_ (hb2_ x_ hx_))
  have hf29 := rowsIn_fr hf19 hF25 (hC15.apartM 0 0 rfl rfl)
  have hf30 := rowsIn_fr hf20 hF25 (hC15.apartM 0 0 rfl rfl)
  refine WL.done rfl ?_
  refine QX.then_normal (hK22 _ _ ?_)
  refine WC.seq (fun K31 hK32 => ?_)
  refine WC.region ?_
  refine WL.runs 2 [(2, .int .i64 ((unlA ps qs : Int) + (unlB ps qs : Int))), (20, .int .i64 ((unlA ps qs : Int) + (unlB ps qs : Int)))] (fun _ => by kernel_rfl) ?_
  refine WL.done rfl ?_
  refine QX.then_normal (hK32 _ _ ?_)
  refine WC.ret ?_
  refine (hret _ _ _ rfl ?_).1
  clear hN hret hret' hK32 hK22 hK4 hK2
  exact ⟨rfl, hC26.fr, doc_mk (hC26.get 0 rfl) ho27 ho27 hf29 hf29 hb1_ hb1_ hpR_ (fun x_ hx_ => Nat.lt_of_lt_of_le (hlt_ x_ hx_) hC26.fr.size)⟩

theorem RCrash_ct (R : List Nat) (p : Nat) (ps qs : Mt) (size : Int)  (w : World) (ht : docAt w R p ps qs size) (hu1 : usedL (ct ps) ≤ 67108864) (hl1 : ps.length ≤ 67108864) (hl2 : qs.length ≤ 67108864) : Calls Try.prog 28 #[.pointer (some ⟨p, 0, none⟩)] w fun e w' => e = .returned (.int .i64 ((unlA ps qs : Int) + (unlB ps qs : Int))) ∧ Fr w w' (p :: R) ∧ docAt w' R p qs qs size := by
  refine enterD (n := 21) Try.func28 rfl rfl (Nat.le_of_ble_eq_true rfl) ?_
  intro Q0 hN hret hret'
  have ht0 := ht
  obtain ⟨A1, c1, A2, c2, hp_, hr1_, hr2_, hi1_, hi2_, hb1_, hb2_, hpR_, hlt_⟩ := ht
  have hC := Cx.openR hp_ hlt_ hpR_
  refine WC.seq (fun K1 hK2 => ?_)
  refine WC.region ?_
  refine WL.runs 1 [(2, .int .i64 0)] (fun _ => by kernel_rfl) ?_
  refine WL.done rfl ?_
  refine QX.then_normal (hK2 _ _ ?_)
  refine WC.seq (fun K3 hK4 => ?_)
  refine WC.drawC hC [] (by kernel_rfl) (fun w5 hF6 hC7 hS8 => ?_)
  have ho9 := own_fr hr1_ hF6 (by simp)
  have ho10 := own_fr hr2_ hF6 (by simp)
  have hf11 := rowsIn_fr hi1_ hF6 (by simp)
  have hf12 := rowsIn_fr hi2_ hF6 (by simp)
  refine WD.pure (NoPanic.then hN) 0 4 (.pointer (some ⟨p, 0, none⟩)) (by kernel_rfl) (fun _ => by kernel_rfl) hS8 ?_
  refine WD.pure (NoPanic.then hN) 1 5 (.pointer (some ⟨p, 0, none⟩)) (by kernel_rfl) (fun _ => by kernel_rfl) hS8 ?_
  refine WD.pure (NoPanic.then hN) 2 6 (.pointer (some ⟨p, 0, none⟩)) (by kernel_rfl) (fun _ => by kernel_rfl) hS8 ?_
  refine WD.pure (NoPanic.then hN) 4 8 (.pointer (some ⟨p, 0, none⟩)) (by kernel_rfl) (fun _ => by kernel_rfl) hS8 ?_
  refine WD.pure (NoPanic.then hN) 5 9 (.pointer (some ⟨p, 0, none⟩)) (by kernel_rfl) (fun _ => by kernel_rfl) hS8 ?_
  refine WD.pure (NoPanic.then hN) 6 10 (.pointer (some ⟨p, 1, none⟩)) (by kernel_rfl) (fun _ => by kernel_rfl) hS8 ?_
  refine WD.load (NoPanic.then hN) 3 50 (.pointer (some ⟨p, 0, none⟩)) (.slice A1 ps.length c1) 7 (by kernel_rfl) (by kernel_rfl) (fun _ hS_ => run_ld (Fr.has hS_ (hC7.get 0 rfl) (by simp)) rfl) hS8 ?_
  refine WD.load (NoPanic.then hN) 7 50 (.pointer (some ⟨p, 1, none⟩)) (.slice A2 qs.length c2) 11 (by kernel_rfl) (by kernel_rfl) (fun _ hS_ => run_ld (Fr.has hS_ (hC7.get 0 rfl) (by simp)) rfl) hS8 ?_
  refine WD.call 8 (by kernel_rfl) rfl rfl rfl rfl rfl (by kernel_rfl) (RUnlike_n A1 ps.length c1 A2 qs.length c2 ps qs w5 (own_rd ho9 cellP_len (by decide)) (own_rd ho10 cellP_len (by decide)) (own_count cellP_len (by decide) ho9) (own_count cellP_len (by decide) ho10) hf11.1 hf12.1 (by omega) (by omega)) ?_
  rintro _ w14 ⟨rfl, hF13⟩
  have hS16 := hS8.trans hF13 (by simp)
  refine ⟨_, rfl, hS16, ?_⟩
  have hC15 := hC7.call hF13
  have ho17 := own_fr ho9 hF13 (by simp)
  have ho18 := own_fr ho10 hF13 (by simp)
  have hf19 := rowsIn_fr hf11 hF13 (by simp)
  have hf20 := rowsIn_fr hf12 hF13 (by simp)
  refine WD.pure (NoPanic.then hN) 9 3 (.int .i64 ((unlA ps qs : Int) + (unlB ps qs : Int))) (by kernel_rfl) (fun _ => by kernel_rfl) hS16 ?_
  refine WD.done (by kernel_rfl) ?_
  refine QX.then_normal (hK4 _ _ ?_)
  refine WC.seq (fun K21 hK22 => ?_)
  refine WC.region ?_
  refine WL.runs 4 [(16, .pointer (some ⟨p, 1, none⟩)), (15, .pointer (some ⟨p, 0, none⟩)), (14, .pointer (some ⟨p, 0, none⟩)), (13, .pointer (some ⟨p, 0, none⟩))] (fun _ => by kernel_rfl) ?_
  refine WL.load 50 (.pointer (some ⟨p, 1, none⟩)) (.slice A2 qs.length c2) 17 (by kernel_rfl) (run_ld (hC15.get 0 rfl) rfl) ?_
  refine WL.runs 2 [(19, .pointer (some ⟨p, 0, none⟩)), (18, .pointer (some ⟨p, 0, none⟩))] (fun _ => by kernel_rfl) ?_
  refine WL.storeM (c' := #[.slice A2 qs.length c2, .slice A2 qs.length c2, .int .i64 size]) hC15 0 50 p 0 (.slice A2 qs.length c2) (by kernel_rfl) rfl (by kernel_rfl) (fun w23 hF25 hC26 => ?_)
  have ho27 := own_fr ho17 hF25 (fun x_ hx_ => (hC15.apartM 0 0 rfl rfl) x_ (hb1_ x_ hx_))
  have ho28 := own_fr ho18 hF25 (fun x_ hx_ => (hC15.apartM 0 0 rfl rfl) x_ (hb2_ x_ hx_))
  have hf29 := rowsIn_fr hf19 hF25 (hC15.apartM 0 0 rfl rfl)
  have hf30 := rowsIn_fr hf20 hF25 (hC15.apartM 0 0 rfl rfl)
  refine WL.done rfl ?_
  refine QX.then_normal (hK22 _ _ ?_)
  refine WC.seq (fun K31 hK32 => ?_)
  refine WC.region ?_
  refine WL.runs 2 [(2, .int .i64 ((unlA ps qs : Int) + (unlB ps qs : Int))), (20, .int .i64 ((unlA ps qs : Int) + (unlB ps qs : Int)))] (fun _ => by kernel_rfl) ?_
  refine WL.done rfl ?_
  refine QX.then_normal (hK32 _ _ ?_)
  refine WC.ret ?_
  refine (hret _ _ _ rfl ?_).1
  clear hN hret hret' hK32 hK22 hK4 hK2
  exact ⟨rfl, hC26.fr, doc_mk (hC26.get 0 rfl) ho28 ho28 hf30 hf30 hb2_ hb2_ hpR_ (fun x_ hx_ => Nat.lt_of_lt_of_le (hlt_ x_ hx_) hC26.fr.size)⟩

theorem look_outK (L : Ct) (k j : ByteArray) : lookL (outK L k) j = if k = j then none else lookL L j := by
  unfold outK
  induction L with
  | nil => simp [lookL]
  | cons a r ih =>
    obtain ⟨x, y⟩ := a
    rw [List.filter_cons]
    by_cases hx : x = k
    · subst hx
      rw [if_neg (by simp), ih]
      conv => rhs; unfold lookL
      by_cases hj : x = j
      · rw [if_pos hj, if_pos hj]
      · rw [if_neg hj, if_neg hj, if_neg hj]
    · rw [if_pos (by simp [hx])]
      conv => lhs; unfold lookL
      conv => rhs; unfold lookL
      rw [ih]
      by_cases hj : x = j
      · subst hj; rw [if_pos rfl, if_pos rfl, if_neg (fun e => hx e.symm)]
      · rw [if_neg hj, if_neg hj]
theorem dropN_ext (ks : List ByteArray) : ∀ (N M : Ct), (∀ k, (lookL N k).isSome = (lookL M k).isSome) → (N.map (·.1)).Nodup → (M.map (·.1)).Nodup → dropN N ks = dropN M ks := by
  induction ks with
  | nil => intro N M _ _ _; rfl
  | cons k r ih =>
    intro N M h hn hm
    simp only [dropN]
    rw [h k]
    congr 1
    refine ih _ _ (fun j => ?_) (delL_keys _ _ hn) (delL_keys _ _ hm)
    rw [al_look_del hn, al_look_del hm]
    split
    · rfl
    · exact h j
theorem outK_keys {L : Ct} (h : (L.map (·.1)).Nodup) (k : ByteArray) : ((outK L k).map (·.1)).Nodup := (List.Sublist.map _ List.filter_sublist).nodup h
theorem outK_dropN0 {N : Ct} (h : (N.map (·.1)).Nodup) (k : ByteArray) (ks : List ByteArray) : dropN (outK N k) ks = dropN (delL N k) ks :=
  dropN_ext ks _ _ (fun j => by rw [look_outK, al_look_del h]) (outK_keys h k) (delL_keys _ _ h)
theorem out_none {L : Ct} {k : ByteArray} (h : lookL L k = none) : outK L k = L := by
  unfold outK
  refine List.filter_eq_self.2 fun p hp => ?_
  have := al_none.1 h p hp
  simp [this]
set_option maxHeartbeats 2000000 in
theorem RDrop_ct (R : List Nat) (p : Nat) (ps qs : Mt) (size : Int) (A : Option Addr) (c : Nat) (ks : List ByteArray) (w : World) (ht : docAt w R p ps qs size) (hu1 : usedL (ct ps) ≤ 67108864) (hl1 : ps.length ≤ 67108864) (hl2 : qs.length ≤ 67108864) (hks : Rd w 1 Go.Tw.encS A ks) (hkl : ks.length ≤ 9223372036854775807) (hAF : ∀ b off, A = some ⟨b, off, none⟩ → ks ≠ [] → b ∉ p :: R) (hnd : ((ct ps).map (·.1)).Nodup) : Calls Try.prog 26 #[.pointer (some ⟨p, 0, none⟩), .slice A ks.length c] w fun e w' => ∃ (ps2 : Mt) (R2 : List Nat), e = .returned (.int .i64 (dropN (ct ps) ks : Int)) ∧ Fr w w' (p :: R) ∧ docAt w' R2 p ps2 qs size ∧ (∀ x ∈ R2, x ∈ R ∨ w.heap.size ≤ x) ∧ ct ps2 = ks.foldl outK (ct ps) := by
  refine enterD (n := 38) Try.func26 rfl rfl (Nat.le_of_ble_eq_true rfl) ?_
  intro Q0 hN hret hret'
  have ht0 := ht
  obtain ⟨A1, c1, A2, c2, hp_, hr1_, hr2_, hi1_, hi2_, hb1_, hb2_, hpR_, hlt_⟩ := ht
  have hC := Cx.openR hp_ hlt_ hpR_
  refine WC.seq (fun K1 hK2 => ?_)
  refine WC.region ?_
  refine WL.runs 1 [(4, .int .i64 0)] (fun _ => by kernel_rfl) ?_
  refine WL.done rfl ?_
  refine QX.then_normal (hK2 _ _ ?_)
  refine WC.seq (fun K3 hK4 => ?_)
  refine WC.region ?_
  refine WL.runs 1 [(5, .int .i64 0)] (fun _ => by kernel_rfl) ?_
  refine WL.done rfl ?_
  refine QX.then_normal (hK4 _ _ ?_)
  refine WC.seq (fun K5 hK6 => ?_)
  refine WC.seq (fun K7 hK8 => ?_)
  refine WC.region ?_
  refine WL.runs 1 [(6, .int .i64 0)] (fun _ => by kernel_rfl) ?_
  refine WL.done rfl ?_
  refine QX.then_normal (hK8 _ _ ?_)
  refine WC.block ?_
  refine WC.loop (fun m_ E_ w_ => ∃ (i : Nat) (cn : Int) (R5 : List Nat) (A5 : Option Addr) (c5 : Nat) (ps5 : Mt), m_ = ks.length - i ∧ E_ = [(0, .pointer (some ⟨p, 0, none⟩)), (1, .slice A ks.length c), (5, .int .i64 cn), (6, .int .i64 (i : Int))] ∧ Cx w (p :: R) w_ [(p, .cells #[.slice A5 ps5.length c5, .slice A2 qs.length c2, .int .i64 size] 52)] [R5] ∧ World.ownsRow w_ 0 65 2 (.slice A5 ps5.length c5) ps5.length (ps5.flatMap cellP) ∧ World.ownsRow w_ 0 65 2 (.slice A2 qs.length c2) qs.length (qs.flatMap cellP) ∧ rowsIn w_ R5 ps5 ∧ rowsIn w_ R5 qs ∧ (i ≤ ks.length ∧ cn + (dropN (ct ps5) (ks.drop i) : Int) = (dropN (ct ps) ks : Int) ∧ (0 ≤ cn ∧ cn ≤ (i : Int)) ∧ (ks.drop i).foldl outK (ct ps5) = ks.foldl outK (ct ps) ∧ (ps5.length ≤ ps.length ∧ usedL (ct ps5) ≤ usedL (ct ps)) ∧ (∀ x ∈ blk (.slice A5 ps5.length c5), x ∈ R5) ∧ (∀ x ∈ blk (.slice A2 qs.length c2), x ∈ R5) ∧ ((ct ps5).map (·.1)).Nodup)) ⟨_, _, ⟨0, 0, R, A1, c1, ps, rfl, rfl, hC, hr1_, hr2_, hi1_, hi2_, Nat.zero_le _, by simp, by omega, rfl, ⟨Nat.le_refl _, Nat.le_refl _⟩, hb1_, hb2_, hnd⟩, sub_of ⟨rfl, rfl, rfl, rfl, trivial⟩⟩ (fun m12 E_ w13 K9 hK10 hI11 => ?_)
  obtain ⟨i, cn, R5, A5, c5, ps5, rfl, rfl, hC14, hnow5, hsyn5, hrw5, hrw6, hi, hdn, hcn, hfo, hle5, hb5, hb6, hnd5⟩ := hI11
  refine WC.seq (fun K15 hK16 => ?_)
  refine WC.seq (fun K17 hK18 => ?_)
  refine WC.region ?_
  refine WL.runs 4 [(10, .bool (decide ((i : Int) < (ks.length : Int)))), (9, .int .i64 (ks.length : Int)), (8, .slice A ks.length c), (7, .int .i64 (i : Int))] (fun _ => by kernel_rfl) ?_
  refine WL.done rfl ?_
  refine QX.then_normal (hK18 _ _ ?_)
  refine WC.test_at 10 (decide ((i : Int) < (ks.length : Int))) rfl (fun t19b => ?_) (fun t19b => ?_)
  · -- (i : Int) < (ks.length : Int): true
    have t19 : (i : Int) < (ks.length : Int) := by have q_ := of_decide_eq_true t19b; omega
    refine WC.cond_true rfl ?_
    refine WC.skip ?_
    refine QX.then_normal (hK16 _ _ ?_)
    refine WC.seq (fun K20 hK21 => ?_)
    refine WC.block ?_
    refine WC.seq (fun K22 hK23 => ?_)
    refine WC.drawC hC14 [] (by kernel_rfl) (fun w24 hF25 hC26 hS27 => ?_)
    have ho28 := own_fr hnow5 hF25 (by simp)
    have ho29 := own_fr hsyn5 hF25 (by simp)
    have hf30 := rowsIn_fr hrw5 hF25 (by simp)
    have hf31 := rowsIn_fr hrw6 hF25 (by simp)
    refine WD.pure (NoPanic.then (NoPanic.block (NoPanic.then (NoPanic.then (NoPanic.block (NoPanic.then hN)))))) 0 13 (.pointer (some ⟨p, 0, none⟩)) (by kernel_rfl) (fun _ => by kernel_rfl) hS27 ?_
    refine WD.pure (NoPanic.then (NoPanic.block (NoPanic.then (NoPanic.then (NoPanic.block (NoPanic.then hN)))))) 1 14 (.pointer (some ⟨p, 0, none⟩)) (by kernel_rfl) (fun _ => by kernel_rfl) hS27 ?_
    refine WD.pure (NoPanic.then (NoPanic.block (NoPanic.then (NoPanic.then (NoPanic.block (NoPanic.then hN)))))) 2 15 (.pointer (some ⟨p, 0, none⟩)) (by kernel_rfl) (fun _ => by kernel_rfl) hS27 ?_
    refine WD.pure (NoPanic.then (NoPanic.block (NoPanic.then (NoPanic.then (NoPanic.block (NoPanic.then hN)))))) 4 17 (.slice A ks.length c) (by kernel_rfl) (fun _ => by kernel_rfl) hS27 ?_
    refine WD.pure (NoPanic.then (NoPanic.block (NoPanic.then (NoPanic.then (NoPanic.block (NoPanic.then hN)))))) 5 18 (.int .i64 (i : Int)) (by kernel_rfl) (fun _ => by kernel_rfl) hS27 ?_
    obtain ⟨e32, he33⟩ := get_some (xs := ks) (i := i) (by omega)
    obtain ⟨b34, o36, hA35, hc37⟩ := hks.at_ _ _ he33
    refine WD.index (NoPanic.then (NoPanic.block (NoPanic.then (NoPanic.then (NoPanic.block (NoPanic.then hN)))))) 6 A ks.length c 19 .i64 (i : Int) b34 o36 i 1 (by kernel_rfl) (by kernel_rfl) hA35 (by omega) (by omega) (o36 + i) (by first | (simp; done) | omega) hS27 ?_
    refine WD.load (NoPanic.then (NoPanic.block (NoPanic.then (NoPanic.then (NoPanic.block (NoPanic.then hN)))))) 3 50 (.pointer (some ⟨p, 0, none⟩)) (.slice A5 ps5.length c5) 16 (by kernel_rfl) (by kernel_rfl) (fun _ hS_ => run_ld (Fr.has hS_ (hC26.get 0 rfl) (by simp)) rfl) hS27 ?_
    refine WD.load (NoPanic.then (NoPanic.block (NoPanic.then (NoPanic.then (NoPanic.block (NoPanic.then hN)))))) 7 9 (.pointer (some ⟨b34, o36 + i, none⟩)) (.string e32) 20 (by kernel_rfl) (by kernel_rfl) (fun _ hS_ => run_load1 rfl (by simpa [Nat.add_assoc] using Fr.cell hS_ (hC26.fr.cell (hc37 0 _ rfl) (by have q_ := hAF _ _ hA35 (ne_of_get he33); exact q_)) (by simp))) hS27 ?_
    refine WD.call 8 (by kernel_rfl) rfl rfl rfl rfl rfl (by kernel_rfl) (RFind_n A5 ps5.length c5 ps5 e32 w24 (own_rd ho28 cellP_len (by decide)) (own_count cellP_len (by decide) ho28) (by omega)) ?_
    rintro _ w44 ⟨r38, rfl, hF43, hfr42⟩
    have hS46 := hS27.trans hF43 (by simp)
    refine ⟨_, rfl, hS46, ?_⟩
    have hC45 := hC26.call hF43
    have ho47 := own_fr ho28 hF43 (by simp)
    have ho48 := own_fr ho29 hF43 (by simp)
    have hf49 := rowsIn_fr hf30 hF43 (by simp)
    have hf50 := rowsIn_fr hf31 hF43 (by simp)
    refine WD.pure (NoPanic.then (NoPanic.block (NoPanic.then (NoPanic.then (NoPanic.block (NoPanic.then hN)))))) 9 22 (.bool (decide (r38 ≥ 0))) (by kernel_rfl) (fun _ => by kernel_rfl) hS46 ?_
    refine WD.done (by kernel_rfl) ?_
    refine QX.then_normal (hK23 _ _ ?_)
    refine WC.test_at 22 (decide (r38 ≥ 0)) rfl (fun t51b => ?_) (fun t51b => ?_)
    · -- r38 ≥ 0: true
      have t51 : (0 : Int) ≤ r38 := by have q_ := of_decide_eq_true t51b; omega
      refine WC.cond_true rfl ?_
      refine WC.seq (fun K52 hK53 => ?_)
      refine WC.drawC hC45 [p] (by kernel_rfl) (fun w54 hF55 hC56 hS57 => ?_)
      have ho58 := own_fr ho47 hF55 (by simp)
      have ho59 := own_fr ho48 hF55 (by simp)
      have hf60 := rowsIn_fr hf49 hF55 (by simp)
      have hf61 := rowsIn_fr hf50 hF55 (by simp)
      refine WD.pure (NoPanic.then (NoPanic.block (NoPanic.then (NoPanic.then (NoPanic.block (NoPanic.then hN)))))) 0 23 (.pointer (some ⟨p, 0, none⟩)) (by kernel_rfl) (fun _ => by kernel_rfl) hS57 ?_
      refine WD.pure (NoPanic.then (NoPanic.block (NoPanic.then (NoPanic.then (NoPanic.block (NoPanic.then hN)))))) 1 24 (.pointer (some ⟨p, 0, none⟩)) (by kernel_rfl) (fun _ => by kernel_rfl) hS57 ?_
      refine WD.pure (NoPanic.then (NoPanic.block (NoPanic.then (NoPanic.then (NoPanic.block (NoPanic.then hN)))))) 2 25 (.pointer (some ⟨p, 0, none⟩)) (by kernel_rfl) (fun _ => by kernel_rfl) hS57 ?_
      refine WD.pure (NoPanic.then (NoPanic.block (NoPanic.then (NoPanic.then (NoPanic.block (NoPanic.then hN)))))) 3 26 (.pointer (some ⟨p, 0, none⟩)) (by kernel_rfl) (fun _ => by kernel_rfl) hS57 ?_
      refine WD.pure (NoPanic.then (NoPanic.block (NoPanic.then (NoPanic.then (NoPanic.block (NoPanic.then hN)))))) 5 28 (.slice A ks.length c) (by kernel_rfl) (fun _ => by kernel_rfl) hS57 ?_
      refine WD.pure (NoPanic.then (NoPanic.block (NoPanic.then (NoPanic.then (NoPanic.block (NoPanic.then hN)))))) 6 29 (.int .i64 (i : Int)) (by kernel_rfl) (fun _ => by kernel_rfl) hS57 ?_
      refine WD.index (NoPanic.then (NoPanic.block (NoPanic.then (NoPanic.then (NoPanic.block (NoPanic.then hN)))))) 7 A ks.length c 30 .i64 (i : Int) b34 o36 i 1 (by kernel_rfl) (by kernel_rfl) hA35 (by omega) (by omega) (o36 + i) (by first | (simp; done) | omega) hS57 ?_
      refine WD.load (NoPanic.then (NoPanic.block (NoPanic.then (NoPanic.then (NoPanic.block (NoPanic.then hN)))))) 8 9 (.pointer (some ⟨b34, o36 + i, none⟩)) (.string e32) 31 (by kernel_rfl) (by kernel_rfl) (fun _ hS_ => run_load1 rfl (by simpa [Nat.add_assoc] using Fr.cell hS_ (hC56.fr.cell (hc37 0 _ rfl) (by have q_ := hAF _ _ hA35 (ne_of_get he33); exact q_)) (by have q_ := hAF _ _ hA35 (ne_of_get he33); simp only [List.mem_cons, not_or] at q_; simpa using q_.1))) hS57 ?_
      refine WD.sem 4 (Instr.loadAt 50 (.pointer (some ⟨p, 0, none⟩))) 27 (.slice A5 ps5.length c5) (by kernel_rfl) (by kernel_rfl) (run_ld (hC56.get 0 rfl) rfl) hS57 ?_
      refine WD.call 9 (by kernel_rfl) rfl rfl rfl rfl rfl (by kernel_rfl) (RWithout_n A5 ps5.length c5 ps5 e32 w54 (own_rd ho58 cellP_len (by decide)) (own_count cellP_len (by decide) ho58) (by omega)) ?_
      rintro _ w68 ⟨v_, rfl, hF67, ho66⟩
      have hC69 := absorbC hC56 0 rfl hF67 (own_ge ho66) (own_lt ho66)
      obtain ⟨A70, c71, rfl, hle72⟩ := own_form ho66
      have ho73 := own_base (b' := 0) ho66 (fun _ _ => Nat.zero_le _)
      have hS74 := hS57.trans hF67 (by simp)
      refine ⟨_, rfl, hS74, ?_⟩
      have ho75 := own_fr ho58 hF67 (by simp)
      have ho76 := own_fr ho59 hF67 (by simp)
      have hf77 := rowsIn_fr hf60 hF67 (by simp)
      have hf78 := rowsIn_fr hf61 hF67 (by simp)
      have hrw79 := rowsIn_sub (rowsIn_mono hf77 (fun _ h_ => List.mem_append_left (blk (.slice A70 ((outK ps5 e32).length) c71)) h_)) (fun p_ h_ => (mem_outK (k := e32).1 h_).1)
      have hrw80 := rowsIn_mono hf78 (fun _ h_ => List.mem_append_left (blk (.slice A70 ((outK ps5 e32).length) c71)) h_)
      refine WD.pure (NoPanic.then (NoPanic.block (NoPanic.then (NoPanic.then (NoPanic.block (NoPanic.then hN)))))) 10 33 (.pointer (some ⟨p, 0, none⟩)) (by kernel_rfl) (fun _ => by kernel_rfl) hS74 ?_
      refine WD.pure (NoPanic.then (NoPanic.block (NoPanic.then (NoPanic.then (NoPanic.block (NoPanic.then hN)))))) 11 34 (.pointer (some ⟨p, 0, none⟩)) (by kernel_rfl) (fun _ => by kernel_rfl) hS74 ?_
      obtain ⟨w81, hr82, hF83, hC84⟩ := sto_run (c' := #[.slice A70 ((outK ps5 e32).length) c71, .slice A2 qs.length c2, .int .i64 size]) Try.prog hC69 0 50 p 0 (.slice A70 ((outK ps5 e32).length) c71) rfl (by kernel_rfl)
      have hS85 := hS74.trans hF83 (by first | (simp; done) | (simp [*]; done) | (have q_ := hS74.size; simp; omega))
      refine WD.semU 12 (Instr.storeAt 50 (.pointer (some ⟨p, 0, none⟩)) (.slice A70 ((outK ps5 e32).length) c71)) (by kernel_rfl) (by kernel_rfl) hr82 hS85 ?_
      have ho86 := own_fr ho73 hF83 (fun x_ hx_ => (hC69.apartM 0 0 rfl rfl) x_ ((fun x_ h_ => List.mem_append_right _ h_) x_ hx_))
      have ho87 := own_fr ho76 hF83 (fun x_ hx_ => (hC69.apartM 0 0 rfl rfl) x_ ((fun x_ h_ => List.mem_append_left _ (hb6 x_ h_)) x_ hx_))
      have hf88 := rowsIn_fr hrw79 hF83 (hC69.apartM 0 0 rfl rfl)
      have hf89 := rowsIn_fr hrw80 hF83 (hC69.apartM 0 0 rfl rfl)
      refine WD.done (by kernel_rfl) ?_
      refine QX.then_normal (hK53 _ _ ?_)
      refine WC.region ?_
      refine WL.runs 2 [(36, .int .i64 (IntKind.i64.wrap (cn + 1))), (35, .int .i64 cn)] (fun _ => by kernel_rfl) ?_
      refine WL.recast (show (.int .i64 (IntKind.i64.wrap (cn + 1)) : Value) = .int .i64 (cn + 1) from by rw [wrap_in_i64 (cn + 1) (by omega) (by omega)]) ?_
      refine WL.runs 1 [(5, .int .i64 (cn + 1))] (fun _ => by kernel_rfl) ?_
      refine WL.done rfl ?_
      refine QX.block_normal ?_
      refine QX.then_normal (hK21 _ _ ?_)
      refine WC.region ?_
      refine WL.runs 2 [(12, .int .i64 (IntKind.i64.wrap ((i : Int) + 1))), (11, .int .i64 (i : Int))] (fun _ => by kernel_rfl) ?_
      refine WL.recast (show (.int .i64 (IntKind.i64.wrap ((i : Int) + 1)) : Value) = .int .i64 ((i : Int) + 1) from by rw [wrap_in_i64 ((i : Int) + 1) (by omega) (by omega)]) ?_
      refine WL.runs 1 [(6, .int .i64 ((i : Int) + 1))] (fun _ => by kernel_rfl) ?_
      refine WL.done rfl ?_
      refine QX.then_normal ?_
      have hC90 := hC84.pick [0] [0] rfl rfl
      have hdst_ := drop_step he33
      rw [hdst_] at hdn hfo
      simp only [dropN, List.foldl_cons] at hdn hfo
      rw [if_pos (find_pos hfr42 (by omega))] at hdn
      have hol_ := outK_len ps5 e32
      have hou_ := used_outK ps5 e32
      refine fun a_ ha_ => hK10 _ _ _ ?_ ⟨i + 1, cn + 1, (R5 ++ blk (.slice A70 ((outK ps5 e32).length) c71)), A70, c71, (outK ps5 e32), rfl, rfl, hC90, ho86, ho87, hf88, hf89, by omega, by rw [ct_out, outK_dropN0 hnd5]; omega, by omega, by rw [ct_out]; exact hfo, ⟨by omega, by omega⟩, (fun x_ h_ => List.mem_append_right _ h_), (fun x_ h_ => List.mem_append_left _ (hb6 x_ h_)), by rw [ct_out]; exact outK_keys hnd5 _⟩ a_ (ha_.weaken (sub_of ⟨rfl, rfl, rfl, rfl, trivial⟩))
      omega
    · -- r38 ≥ 0: false
      have t51 : r38 < 0 := by have q_ := of_decide_eq_false t51b; omega
      refine WC.cond_false rfl ?_
      refine WC.skip ?_
      refine QX.block_normal ?_
      refine QX.then_normal (hK21 _ _ ?_)
      refine WC.region ?_
      refine WL.runs 2 [(12, .int .i64 (IntKind.i64.wrap ((i : Int) + 1))), (11, .int .i64 (i : Int))] (fun _ => by kernel_rfl) ?_
      refine WL.recast (show (.int .i64 (IntKind.i64.wrap ((i : Int) + 1)) : Value) = .int .i64 ((i : Int) + 1) from by rw [wrap_in_i64 ((i : Int) + 1) (by omega) (by omega)]) ?_
      refine WL.runs 1 [(6, .int .i64 ((i : Int) + 1))] (fun _ => by kernel_rfl) ?_
      refine WL.done rfl ?_
      refine QX.then_normal ?_
      have hC91 := hC45.pick [0] [0] rfl rfl
      have hdst_ := drop_step he33
      rw [hdst_] at hdn hfo
      simp only [dropN, List.foldl_cons] at hdn hfo
      have hno_ := (find_neg hfr42 (by omega))
      rw [hno_] at hdn
      rw [out_none hno_] at hfo
      rw [del_none hno_] at hdn
      simp only [Option.isSome_none, Bool.false_eq_true, if_false, Nat.zero_add] at hdn
      refine fun a_ ha_ => hK10 _ _ _ ?_ ⟨i + 1, cn, R5, A5, c5, ps5, rfl, rfl, hC91, ho47, ho48, hf49, hf50, by omega, by omega, by omega, hfo, hle5, hb5, hb6, hnd5⟩ a_ (ha_.weaken (sub_of ⟨rfl, rfl, rfl, rfl, trivial⟩))
      omega
  · -- (i : Int) < (ks.length : Int): false
    have t19 : (ks.length : Int) ≤ (i : Int) := by have q_ := of_decide_eq_false t19b; omega
    refine WC.cond_false rfl ?_
    refine WC.exit ?_
    refine QX.then_exit ?_
    refine QX.then_exit ?_
    refine QX.block_hit ?_
    refine QX.then_normal (hK6 _ _ ?_)
    refine WC.seq (fun K92 hK93 => ?_)
    refine WC.region ?_
    refine WL.runs 2 [(4, .int .i64 cn), (37, .int .i64 cn)] (fun _ => by kernel_rfl) ?_
    refine WL.done rfl ?_
    refine QX.then_normal (hK93 _ _ ?_)
    refine WC.ret ?_
    refine (hret _ _ _ rfl ?_).1
    clear hN hret hret' hK93 hK18 hK16 hK8 hK6 hK4 hK2
    have hi_ : i = ks.length := by omega
    subst hi_
    rw [List.drop_length] at hdn hfo
    simp only [dropN, List.foldl_nil] at hdn hfo
    exact ⟨ps5, R5, by show Ending.returned (.int .i64 cn) = _; rw [show cn = (dropN (ct ps) ks : Int) from by omega], hC14.fr, doc_mk (hC14.get 0 rfl) hnow5 hsyn5 hrw5 hrw6 hb5 hb6 (hC14.notin 0 0 rfl rfl) (hC14.ltF 0 rfl), (fun x_ h_ => ((hC14.ownF _ (List.mem_of_getElem? (show _[0]? = some R5 from rfl)) x_ h_).elim (fun z_ => (List.mem_cons.1 z_).elim (fun e_ => by subst e_; exact absurd h_ (hC14.notin 0 0 rfl rfl)) .inl) .inr)), hfo⟩

end Go.Proofs.Ytelmklombehhkaa
