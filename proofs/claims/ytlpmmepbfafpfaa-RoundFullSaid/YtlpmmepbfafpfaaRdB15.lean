/- Contracts of functions of the program, each proved by a walk through its code; conditions stand in the statements. -/
import Derived.Test.YtlpmmepbfafpfaaRdA15
namespace Go.Proofs.Ytlpmmepbfafpfaa
set_option linter.unusedSimpArgs false
set_option linter.unusedVariables false
set_option linter.unusedSectionVars false
open Go Go.RowKit Go.Tw
set_option linter.unusedVariables false
set_option maxRecDepth 20000
theorem key3 : KeyL Try.prog 101 ek3 := KeyL.arr3 (kt := 101) (e := 3) rfl rfl (fun _ => by kernel_rfl) (fun b k w => by kernel_rfl)
set_option maxHeartbeats 1000000 in
theorem CheckLog_ct (A : Option Addr) (c : Nat) (log : List Cm) (w : World) (hr : Rd w 12 cellsC A log) (hok : okL log) : Calls Try.prog 22 #[.slice A log.length c] w fun e w' => e = .returned .nilIface ∧ Fr w w' [] := by
  refine enterD (n := 42) Try.func22 rfl rfl (Nat.le_of_ble_eq_true rfl) ?_
  intro Q0 hN hret hret'
  have hll_ := hok.2.2
  have hC := Cx.start w
  refine WC.seq (fun K1 hK2 => ?_)
  refine WC.region ?_
  refine WL.runs 1 [(2, .nilIface)] (fun _ => by kernel_rfl) ?_
  refine WL.done rfl ?_
  refine QX.then_normal (hK2 _ _ ?_)
  refine WC.seq (fun K3 hK4 => ?_)
  refine WC.seq (fun K5 hK6 => ?_)
  refine WC.region ?_
  refine WL.runs 3 [(9, .bool (decide ((log.length : Int) > 256))), (8, .int .i64 (log.length : Int)), (7, .slice A log.length c)] (fun _ => by kernel_rfl) ?_
  refine WL.done rfl ?_
  refine QX.then_normal (hK6 _ _ ?_)
  refine WC.know 9 (.bool (decide ((log.length : Int) > 256))) (.bool false) rfl (congrArg Value.bool (by have q_ := hok.2.2; simp; omega)) ?_
  refine WC.cond_false rfl ?_
  refine WC.skip ?_
  refine QX.then_normal (hK4 _ _ ?_)
  refine WC.seq (fun K7 hK8 => ?_)
  refine WC.region ?_
  refine WL.newM hC (fun b => .map (some b)) (.map #[] 0) 11 (fun _ => by kernel_rfl) (fun g9 w10 hb13 hF11 hC12 => ?_)
  refine WL.runs 1 [(3, .map (some g9))] (fun _ => by kernel_rfl) ?_
  refine WL.done rfl ?_
  refine QX.then_normal (hK8 _ _ ?_)
  refine WC.seq (fun K14 hK15 => ?_)
  refine WC.seq (fun K16 hK17 => ?_)
  refine WC.region ?_
  refine WL.runs 3 [(14, .int .i64 0), (13, .int .i64 (log.length : Int)), (12, .slice A log.length c)] (fun _ => by kernel_rfl) ?_
  refine WL.done rfl ?_
  refine QX.then_normal (hK17 _ _ ?_)
  refine WC.block ?_
  refine WC.loop (fun m_ E_ w_ => ∃ (i : Nat) (es3 : Array MapEntry) (cl3 : Nat) (m3 : List ((Int × Int × Int) × Int)), m_ = log.length - i ∧ E_ = [(0, .slice A log.length c), (3, .map (some g9)), (12, .slice A log.length c), (13, .int .i64 (log.length : Int)), (14, .int .i64 (i : Int))] ∧ Cx w [] w_ [(g9, .map es3 cl3)] [] ∧ (i ≤ log.length ∧ MapOk ek3 evI es3 cl3 m3 ∧ m3.map (·.1) = (log.take i).map idC)) ⟨_, _, ⟨0, #[], 0, [], rfl, rfl, hC12, Nat.zero_le _, MapOk.nil _ _, rfl⟩, sub_of ⟨rfl, rfl, rfl, rfl, rfl, trivial⟩⟩ (fun m21 E_ w22 K18 hK19 hI20 => ?_)
  obtain ⟨i, es3, cl3, m3, rfl, rfl, hC23, hi, hm3, hkk⟩ := hI20
  skip
  refine WC.seq (fun K24 hK25 => ?_)
  refine WC.region ?_
  refine WL.runs 1 [(15, .bool (decide ((i : Int) < (log.length : Int))))] (fun _ => by kernel_rfl) ?_
  refine WL.done rfl ?_
  refine QX.then_normal (hK25 _ _ ?_)
  refine WC.seq (fun K26 hK27 => ?_)
  refine WC.test_at 15 (decide ((i : Int) < (log.length : Int))) rfl (fun t28b => ?_) (fun t28b => ?_)
  · -- (i : Int) < (log.length : Int): true
    have t28 : (i : Int) < (log.length : Int) := by have q_ := of_decide_eq_true t28b; omega
    refine WC.cond_true rfl ?_
    refine WC.skip ?_
    refine QX.then_normal (hK27 _ _ ?_)
    refine WC.seq (fun K29 hK30 => ?_)
    refine WC.block ?_
    refine WC.seq (fun K31 hK32 => ?_)
    refine WC.region ?_
    obtain ⟨e33, he34⟩ := get_some (xs := log) (i := i) (by omega)
    obtain ⟨b35, o37, hA36, hc38⟩ := hr.at_ _ _ he34
    have hoc_ := hok.1 _ (List.mem_of_getElem? he34)
    refine WL.index A log.length c 16 .i64 (i : Int) b35 o37 i 12 (by kernel_rfl) hA36 (by omega) (by omega) (o37 + i * 12) (by first | (simp; done) | omega) ?_
    refine WL.load 44 (.pointer (some ⟨b35, o37 + i * 12, none⟩)) (.agg #[.int .i64 e33.node, .int .i64 e33.boot, .int .i64 e33.seq, .int .i64 e33.time, .int .i64 e33.kind, .int .u32 0, .int .i64 0, .int .i64 0, .slice none 0 0, .int .u32 e33.dip, .int .u32 e33.vip, .bool e33.up]) 17 (by kernel_rfl) (run_rdN (l := [.int .i64 e33.node, .int .i64 e33.boot, .int .i64 e33.seq, .int .i64 e33.time, .int .i64 e33.kind, .int .u32 0, .int .i64 0, .int .i64 0, .slice none 0 0, .int .u32 e33.dip, .int .u32 e33.vip, .bool e33.up]) rfl rfl (fun j u hu => by have hq_ := hC23.fr.cell (hc38 j u hu) (by simp); simpa [Nat.add_assoc] using hq_)) ?_
    have hnone_ := look_new hkk hok.2.1 he34
    refine WL.newM hC23 (fun b => .pointer (some ⟨b, 0, none⟩)) (.cells #[.int .i64 0, .int .i64 0, .int .i64 0, .int .i64 0, .int .i64 0, .int .u32 0, .int .i64 0, .int .i64 0, .slice none 0 0, .int .u32 0, .int .u32 0, .bool false] 44) 5 (fun _ => by kernel_rfl) (fun g39 w40 hb43 hF41 hC42 => ?_)
    refine WL.storeM (c' := #[.int .i64 e33.node, .int .i64 e33.boot, .int .i64 e33.seq, .int .i64 e33.time, .int .i64 e33.kind, .int .u32 0, .int .i64 0, .int .i64 0, .slice none 0 0, .int .u32 e33.dip, .int .u32 e33.vip, .bool e33.up]) hC42 1 44 g39 0 (.agg #[.int .i64 e33.node, .int .i64 e33.boot, .int .i64 e33.seq, .int .i64 e33.time, .int .i64 e33.kind, .int .u32 0, .int .i64 0, .int .i64 0, .slice none 0 0, .int .u32 e33.dip, .int .u32 e33.vip, .bool e33.up]) (by kernel_rfl) rfl (by kernel_rfl) (fun w44 hF46 hC47 => ?_)
    refine WL.done rfl ?_
    refine QX.then_normal (hK32 _ _ ?_)
    refine WC.seq (fun K48 hK49 => ?_)
    refine WC.region ?_
    refine WL.runs 1 [(18, .pointer (some ⟨g39, 0, none⟩))] (fun _ => by kernel_rfl) ?_
    refine WL.load 3 (.pointer (some ⟨g39, 0, none⟩)) (.int .i64 e33.node) 19 (by kernel_rfl) (run_ld (hC47.get 1 rfl) rfl) ?_
    refine WL.runs 1 [(20, .pointer (some ⟨g39, 1, none⟩))] (fun _ => by kernel_rfl) ?_
    refine WL.load 3 (.pointer (some ⟨g39, 1, none⟩)) (.int .i64 e33.boot) 21 (by kernel_rfl) (run_ld (hC47.get 1 rfl) rfl) ?_
    refine WL.runs 1 [(22, .pointer (some ⟨g39, 2, none⟩))] (fun _ => by kernel_rfl) ?_
    refine WL.load 3 (.pointer (some ⟨g39, 2, none⟩)) (.int .i64 e33.seq) 23 (by kernel_rfl) (run_ld (hC47.get 1 rfl) rfl) ?_
    refine WL.runs 1 [(24, .agg #[.int .i64 e33.node, .int .i64 e33.boot, .int .i64 e33.seq])] (fun _ => by kernel_rfl) ?_
    refine WL.newM hC47 (fun b => .pointer (some ⟨b, 0, none⟩)) (.cells #[.int .i64 0, .int .i64 0, .int .i64 0] 101) 6 (fun _ => by kernel_rfl) (fun g50 w51 hb54 hF52 hC53 => ?_)
    refine WL.storeM (c' := #[.int .i64 e33.node, .int .i64 e33.boot, .int .i64 e33.seq]) hC53 2 101 g50 0 (.agg #[.int .i64 e33.node, .int .i64 e33.boot, .int .i64 e33.seq]) (by kernel_rfl) rfl (by kernel_rfl) (fun w55 hF57 hC58 => ?_)
    refine WL.done rfl ?_
    refine QX.then_normal (hK49 _ _ ?_)
    refine WC.seq (fun K59 hK60 => ?_)
    refine WC.seq (fun K61 hK62 => ?_)
    refine WC.region ?_
    refine WL.load 44 (.pointer (some ⟨g39, 0, none⟩)) (.agg #[.int .i64 e33.node, .int .i64 e33.boot, .int .i64 e33.seq, .int .i64 e33.time, .int .i64 e33.kind, .int .u32 0, .int .i64 0, .int .i64 0, .slice none 0 0, .int .u32 e33.dip, .int .u32 e33.vip, .bool e33.up]) 25 (by kernel_rfl) (run_ld (hC58.get 1 rfl) rfl) ?_
    refine WL.call rfl rfl rfl rfl rfl (by kernel_rfl) (Check_ct e33 w55 hoc_) ?_
    rintro _ w64 ⟨rfl, hF63⟩
    refine ⟨_, rfl, ?_⟩
    have hC65 := hC58.call hF63
    refine WL.runs 3 [(29, .map (some g9)), (28, .bool false), (27, .bool false)] (fun _ => by kernel_rfl) ?_
    refine WL.load 101 (.pointer (some ⟨g50, 0, none⟩)) (.agg #[.int .i64 e33.node, .int .i64 e33.boot, .int .i64 e33.seq]) 30 (by kernel_rfl) (run_ld (hC65.get 2 rfl) rfl) ?_
    obtain ⟨xv66, hxv67⟩ : ∃ x_, (lookL m3 (e33.node, e33.boot, e33.seq)).getD (0 : Int) = x_ := ⟨_, rfl⟩
    obtain ⟨bv68, hbv69⟩ : ∃ b_, (lookL m3 (e33.node, e33.boot, e33.seq)).isSome = b_ := ⟨_, rfl⟩
    have hr70 := lookM_1 (P := Try.prog) (w := w64) (ek := ek3) (ev := evI) (d := (0 : Int)) (rfl : Program.underlying Try.prog 100 = some (.map 101 3)) key3 (fun _ => by kernel_rfl) (hC65.get 0 rfl) hm3 (e33.node, e33.boot, e33.seq) hxv67
    refine WL.sem (Instr.lookup 100 (.map (some g9)) (.agg #[.int .i64 e33.node, .int .i64 e33.boot, .int .i64 e33.seq]) false) 31 (.int .i64 xv66) (by kernel_rfl) hr70 ?_
    refine WL.runs 2 [(33, .bool (decide (xv66 > 0))), (32, .bool (decide (xv66 > 0)))] (fun _ => by kernel_rfl) ?_
    refine WL.done rfl ?_
    refine QX.then_normal (hK62 _ _ ?_)
    refine WC.know 33 (.bool (decide (xv66 > 0))) (.bool false) rfl (congrArg Value.bool (by rw [← hxv67, hnone_]; rfl)) ?_
    refine WC.cond_false rfl ?_
    refine WC.skip ?_
    refine QX.then_normal (hK60 _ _ ?_)
    refine WC.drawC hC65 [g9] (by kernel_rfl) (fun w71 hF72 hC73 hS74 => ?_)
    refine WD.pure (NoPanic.block (NoPanic.then (NoPanic.then (NoPanic.block (NoPanic.then hN))))) 0 35 (.map (some g9)) (by kernel_rfl) (fun _ => by kernel_rfl) hS74 ?_
    refine WD.sem 1 (Instr.loadAt 101 (.pointer (some ⟨g50, 0, none⟩))) 36 (.agg #[.int .i64 e33.node, .int .i64 e33.boot, .int .i64 e33.seq]) (by kernel_rfl) (by kernel_rfl) (run_ld (hC73.get 2 rfl) rfl) hS74 ?_
    refine WD.all2 2 4 (by kernel_rfl) ?_ ?_
    · -- operation 2 comes first
      obtain ⟨xv75, hxv76⟩ : ∃ x_, (lookL m3 (e33.node, e33.boot, e33.seq)).getD (0 : Int) = x_ := ⟨_, rfl⟩
      obtain ⟨bv77, hbv78⟩ : ∃ b_, (lookL m3 (e33.node, e33.boot, e33.seq)).isSome = b_ := ⟨_, rfl⟩
      have hr79 := lookM_1 (P := Try.prog) (w := w71) (ek := ek3) (ev := evI) (d := (0 : Int)) (rfl : Program.underlying Try.prog 100 = some (.map 101 3)) key3 (fun _ => by kernel_rfl) (hC73.get 0 rfl) hm3 (e33.node, e33.boot, e33.seq) hxv76
      refine WO.sem 2 (Instr.lookup 100 (.map (some g9)) (.agg #[.int .i64 e33.node, .int .i64 e33.boot, .int .i64 e33.seq]) false) 37 (.int .i64 xv75) (by kernel_rfl) (by kernel_rfl) hr79 hS74 ?_
      refine WD.pure (NoPanic.block (NoPanic.then (NoPanic.then (NoPanic.block (NoPanic.then hN))))) 3 38 (.int .i64 (IntKind.i64.wrap (xv75 + 1))) (by kernel_rfl) (fun _ => by kernel_rfl) hS74 ?_
      refine WD.recast (show (.int .i64 (IntKind.i64.wrap (xv75 + 1)) : Value) = .int .i64 1 from by have h0_ : xv75 = 0 := (by first | exact hxv76.symm.trans (congrArg (fun o_ => Option.getD o_ (0 : Int)) hnone_) | exact hxv76.symm.trans (congrArg (fun o_ => Option.getD o_ (0 : Int)) (look_last hnone_ 0))); rw [h0_]; rfl) ?_
      obtain ⟨w80, es81, hr82, hF83, hC84, hm85, ea86, rfl, hbn87⟩ := entry_run (P := Try.prog) (ek := ek3) (ev := evI) (d := (0 : Int)) hC73 0 rfl (rfl : Program.underlying Try.prog 100 = some (.map 101 3)) key3 hm3 (fun _ => by kernel_rfl) (e33.node, e33.boot, e33.seq) hnone_
      have hS88 := hS74.trans hF83 (by simp)
      refine WD.sem 4 (Instr.mapEntry 100 (.map (some g9)) (.agg #[.int .i64 e33.node, .int .i64 e33.boot, .int .i64 e33.seq])) 39 (.tuple #[.int .i64 (0 : Int), .int .i64 (cl3 : Int)]) (by kernel_rfl) (by kernel_rfl) hr82 hS88 ?_
      refine WD.pure (NoPanic.block (NoPanic.then (NoPanic.then (NoPanic.block (NoPanic.then hN))))) 5 40 (.int .i64 (cl3 : Int)) (by kernel_rfl) (fun _ => by kernel_rfl) hS88 ?_
      obtain ⟨w89, hr90, hF91, hC92⟩ := run_entryStore (P := Try.prog) hC84 0 rfl hbn87 100 (evI 1)
      have hm93 := MapOk.reval (v := 1) hm85
      have hS94 := hS88.trans hF91 (by simp)
      refine WD.semU 6 (Instr.entryStore 100 (.map (some g9)) (.int .i64 (cl3 : Int)) (.int .i64 1)) (by kernel_rfl) (by kernel_rfl) hr90 hS94 ?_
      refine WD.done (by kernel_rfl) ?_
      refine QX.block_normal ?_
      refine QX.then_normal (hK30 _ _ ?_)
      refine WC.region ?_
      refine WL.runs 1 [(41, .int .i64 (IntKind.i64.wrap ((i : Int) + 1)))] (fun _ => by kernel_rfl) ?_
      refine WL.recast (show (.int .i64 (IntKind.i64.wrap ((i : Int) + 1)) : Value) = .int .i64 ((i : Int) + 1) from by rw [wrap_in_i64 ((i : Int) + 1) (by omega) (by omega)]) ?_
      refine WL.runs 1 [(14, .int .i64 ((i : Int) + 1))] (fun _ => by kernel_rfl) ?_
      refine WL.done rfl ?_
      refine QX.then_normal ?_
      have hC95 := hC92.pick [0] [] rfl rfl
      refine fun a_ ha_ => hK19 _ _ _ ?_ ⟨i + 1, (ea86.push { key := ek3 (e33.node, e33.boot, e33.seq), val := evI 1, born := cl3 }), (cl3 + 1), (m3 ++ [((e33.node, e33.boot, e33.seq), 1)]), rfl, rfl, hC95, by omega, hm93, ids_snoc hkk he34 _⟩ a_ (ha_.weaken (sub_of ⟨rfl, rfl, rfl, rfl, rfl, trivial⟩))
      omega
    · -- operation 4 comes first
      obtain ⟨w96, es97, hr98, hF99, hC100, hm101, ea102, rfl, hbn103⟩ := entry_run (P := Try.prog) (ek := ek3) (ev := evI) (d := (0 : Int)) hC73 0 rfl (rfl : Program.underlying Try.prog 100 = some (.map 101 3)) key3 hm3 (fun _ => by kernel_rfl) (e33.node, e33.boot, e33.seq) hnone_
      have hS104 := hS74.trans hF99 (by simp)
      refine WO.sem 4 (Instr.mapEntry 100 (.map (some g9)) (.agg #[.int .i64 e33.node, .int .i64 e33.boot, .int .i64 e33.seq])) 39 (.tuple #[.int .i64 (0 : Int), .int .i64 (cl3 : Int)]) (by kernel_rfl) (by kernel_rfl) hr98 hS104 ?_
      refine WD.pure (NoPanic.block (NoPanic.then (NoPanic.then (NoPanic.block (NoPanic.then hN))))) 5 40 (.int .i64 (cl3 : Int)) (by kernel_rfl) (fun _ => by kernel_rfl) hS104 ?_
      obtain ⟨xv105, hxv106⟩ : ∃ x_, (lookL (m3 ++ [((e33.node, e33.boot, e33.seq), (0 : Int))]) (e33.node, e33.boot, e33.seq)).getD (0 : Int) = x_ := ⟨_, rfl⟩
      obtain ⟨bv107, hbv108⟩ : ∃ b_, (lookL (m3 ++ [((e33.node, e33.boot, e33.seq), (0 : Int))]) (e33.node, e33.boot, e33.seq)).isSome = b_ := ⟨_, rfl⟩
      have hr109 := lookM_1 (P := Try.prog) (w := w96) (ek := ek3) (ev := evI) (d := (0 : Int)) (rfl : Program.underlying Try.prog 100 = some (.map 101 3)) key3 (fun _ => by kernel_rfl) (hC100.get 0 rfl) hm101 (e33.node, e33.boot, e33.seq) hxv106
      refine WD.sem 2 (Instr.lookup 100 (.map (some g9)) (.agg #[.int .i64 e33.node, .int .i64 e33.boot, .int .i64 e33.seq]) false) 37 (.int .i64 xv105) (by kernel_rfl) (by kernel_rfl) hr109 hS104 ?_
      refine WD.pure (NoPanic.block (NoPanic.then (NoPanic.then (NoPanic.block (NoPanic.then hN))))) 3 38 (.int .i64 (IntKind.i64.wrap (xv105 + 1))) (by kernel_rfl) (fun _ => by kernel_rfl) hS104 ?_
      refine WD.recast (show (.int .i64 (IntKind.i64.wrap (xv105 + 1)) : Value) = .int .i64 1 from by have h0_ : xv105 = 0 := (by first | exact hxv106.symm.trans (congrArg (fun o_ => Option.getD o_ (0 : Int)) hnone_) | exact hxv106.symm.trans (congrArg (fun o_ => Option.getD o_ (0 : Int)) (look_last hnone_ 0))); rw [h0_]; rfl) ?_
      obtain ⟨w110, hr111, hF112, hC113⟩ := run_entryStore (P := Try.prog) hC100 0 rfl hbn103 100 (evI 1)
      have hm114 := MapOk.reval (v := 1) hm101
      have hS115 := hS104.trans hF112 (by simp)
      refine WD.semU 6 (Instr.entryStore 100 (.map (some g9)) (.int .i64 (cl3 : Int)) (.int .i64 1)) (by kernel_rfl) (by kernel_rfl) hr111 hS115 ?_
      refine WD.done (by kernel_rfl) ?_
      refine QX.block_normal ?_
      refine QX.then_normal (hK30 _ _ ?_)
      refine WC.region ?_
      refine WL.runs 1 [(41, .int .i64 (IntKind.i64.wrap ((i : Int) + 1)))] (fun _ => by kernel_rfl) ?_
      refine WL.recast (show (.int .i64 (IntKind.i64.wrap ((i : Int) + 1)) : Value) = .int .i64 ((i : Int) + 1) from by rw [wrap_in_i64 ((i : Int) + 1) (by omega) (by omega)]) ?_
      refine WL.runs 1 [(14, .int .i64 ((i : Int) + 1))] (fun _ => by kernel_rfl) ?_
      refine WL.done rfl ?_
      refine QX.then_normal ?_
      have hC116 := hC113.pick [0] [] rfl rfl
      refine fun a_ ha_ => hK19 _ _ _ ?_ ⟨i + 1, (ea102.push { key := ek3 (e33.node, e33.boot, e33.seq), val := evI 1, born := cl3 }), (cl3 + 1), (m3 ++ [((e33.node, e33.boot, e33.seq), 1)]), rfl, rfl, hC116, by omega, hm114, ids_snoc hkk he34 _⟩ a_ (ha_.weaken (sub_of ⟨rfl, rfl, rfl, rfl, rfl, trivial⟩))
      omega
  · -- (i : Int) < (log.length : Int): false
    have t28 : (log.length : Int) ≤ (i : Int) := by have q_ := of_decide_eq_false t28b; omega
    refine WC.cond_false rfl ?_
    refine WC.exit ?_
    refine QX.then_exit ?_
    refine QX.then_exit ?_
    refine QX.block_hit ?_
    refine QX.then_normal (hK15 _ _ ?_)
    refine WC.seq (fun K117 hK118 => ?_)
    refine WC.region ?_
    refine WL.runs 1 [(2, .nilIface)] (fun _ => by kernel_rfl) ?_
    refine WL.done rfl ?_
    refine QX.then_normal (hK118 _ _ ?_)
    refine WC.ret ?_
    refine (hret _ _ _ rfl ?_).1
    clear hN hret hret' hK118 hK27 hK25 hK17 hK15 hK8 hK6 hK4 hK2
    exact ⟨rfl, hC23.fr⟩

set_option maxHeartbeats 1000000 in
theorem copied_ct (A : Option Addr) (c : Nat) (log : List Cm) (w : World) (hr : Rd w 12 cellsC A log) (hlen : log.length ≤ 70000) : Calls Try.prog 23 #[.slice A log.length c] w fun e w' => ∃ v, e = .returned v ∧ Fr w w' [] ∧ w'.ownsRow w.heap.size 44 12 v log.length (log.flatMap cellsC) := by
  refine enterD (n := 24) Try.func23 rfl rfl (Nat.le_of_ble_eq_true rfl) ?_
  intro Q0 hN hret hret'
  have hC := Cx.start w
  refine WC.seq (fun K1 hK2 => ?_)
  refine WC.region ?_
  refine WL.runs 1 [(2, .slice none 0 0)] (fun _ => by kernel_rfl) ?_
  refine WL.done rfl ?_
  refine QX.then_normal (hK2 _ _ ?_)
  refine WC.seq (fun K3 hK4 => ?_)
  refine WC.region ?_
  refine WL.runs 1 [(3, .slice none 0 0)] (fun _ => by kernel_rfl) ?_
  refine WL.done rfl ?_
  refine QX.then_normal (hK4 _ _ ?_)
  refine WC.seq (fun K5 hK6 => ?_)
  refine WC.seq (fun K7 hK8 => ?_)
  refine WC.region ?_
  refine WL.runs 3 [(8, .int .i64 0), (7, .int .i64 (log.length : Int)), (6, .slice A log.length c)] (fun _ => by kernel_rfl) ?_
  refine WL.done rfl ?_
  refine QX.then_normal (hK8 _ _ ?_)
  refine WC.block ?_
  have hC9 := hC.addNil
  refine WC.loop (fun m_ E_ w_ => ∃ (i : Nat) (A5 : Option Addr) (n5 c5 : Nat), m_ = log.length - i ∧ E_ = [(0, .slice A log.length c), (2, .slice none 0 0), (3, .slice A5 n5 c5), (6, .slice A log.length c), (7, .int .i64 (log.length : Int)), (8, .int .i64 (i : Int))] ∧ Cx w [] w_ [] [blk (.slice A5 n5 c5)] ∧ World.ownsRow w_ 0 44 12 (.slice A5 n5 c5) n5 ((log.take i).flatMap cellsC) ∧ (i ≤ log.length)) ⟨_, _, ⟨0, none, 0, 0, rfl, rfl, hC9, own_nil _ _ _ _, Nat.zero_le _⟩, sub_of ⟨rfl, rfl, rfl, rfl, rfl, rfl, trivial⟩⟩ (fun m13 E_ w14 K10 hK11 hI12 => ?_)
  obtain ⟨i, A5, n5, c5, rfl, rfl, hC15, hrow, hi⟩ := hI12
  have hcn_ := own_count cellsC_len (by decide) hrow
  rw [List.length_take] at hcn_
  refine WC.seq (fun K16 hK17 => ?_)
  refine WC.region ?_
  refine WL.runs 1 [(9, .bool (decide ((i : Int) < (log.length : Int))))] (fun _ => by kernel_rfl) ?_
  refine WL.done rfl ?_
  refine QX.then_normal (hK17 _ _ ?_)
  refine WC.seq (fun K18 hK19 => ?_)
  refine WC.test_at 9 (decide ((i : Int) < (log.length : Int))) rfl (fun t20b => ?_) (fun t20b => ?_)
  · -- (i : Int) < (log.length : Int): true
    have t20 : (i : Int) < (log.length : Int) := by have q_ := of_decide_eq_true t20b; omega
    refine WC.cond_true rfl ?_
    refine WC.skip ?_
    refine QX.then_normal (hK19 _ _ ?_)
    refine WC.seq (fun K21 hK22 => ?_)
    refine WC.block ?_
    refine WC.seq (fun K23 hK24 => ?_)
    refine WC.region ?_
    obtain ⟨e25, he26⟩ := get_some (xs := log) (i := i) (by omega)
    obtain ⟨b27, o29, hA28, hc30⟩ := hr.at_ _ _ he26
    refine WL.index A log.length c 10 .i64 (i : Int) b27 o29 i 12 (by kernel_rfl) hA28 (by omega) (by omega) (o29 + i * 12) (by first | (simp; done) | omega) ?_
    refine WL.load 44 (.pointer (some ⟨b27, o29 + i * 12, none⟩)) (.agg #[.int .i64 e25.node, .int .i64 e25.boot, .int .i64 e25.seq, .int .i64 e25.time, .int .i64 e25.kind, .int .u32 0, .int .i64 0, .int .i64 0, .slice none 0 0, .int .u32 e25.dip, .int .u32 e25.vip, .bool e25.up]) 11 (by kernel_rfl) (run_rdN (l := [.int .i64 e25.node, .int .i64 e25.boot, .int .i64 e25.seq, .int .i64 e25.time, .int .i64 e25.kind, .int .u32 0, .int .i64 0, .int .i64 0, .slice none 0 0, .int .u32 e25.dip, .int .u32 e25.vip, .bool e25.up]) rfl rfl (fun j u hu => by have hq_ := hC15.fr.cell (hc30 j u hu) (by simp); simpa [Nat.add_assoc] using hq_)) ?_
    refine WL.newM hC15 (fun b => .pointer (some ⟨b, 0, none⟩)) (.cells #[.int .i64 0, .int .i64 0, .int .i64 0, .int .i64 0, .int .i64 0, .int .u32 0, .int .i64 0, .int .i64 0, .slice none 0 0, .int .u32 0, .int .u32 0, .bool false] 44) 5 (fun _ => by kernel_rfl) (fun g31 w32 hb35 hF33 hC34 => ?_)
    have ho36 := own_fr hrow hF33 (by simp)
    refine WL.storeM (c' := #[.int .i64 e25.node, .int .i64 e25.boot, .int .i64 e25.seq, .int .i64 e25.time, .int .i64 e25.kind, .int .u32 0, .int .i64 0, .int .i64 0, .slice none 0 0, .int .u32 e25.dip, .int .u32 e25.vip, .bool e25.up]) hC34 0 44 g31 0 (.agg #[.int .i64 e25.node, .int .i64 e25.boot, .int .i64 e25.seq, .int .i64 e25.time, .int .i64 e25.kind, .int .u32 0, .int .i64 0, .int .i64 0, .slice none 0 0, .int .u32 e25.dip, .int .u32 e25.vip, .bool e25.up]) (by kernel_rfl) rfl (by kernel_rfl) (fun w37 hF39 hC40 => ?_)
    have ho41 := own_fr ho36 hF39 (hC34.apartM 0 0 rfl rfl)
    refine WL.done rfl ?_
    refine QX.then_normal (hK24 _ _ ?_)
    refine WC.seq (fun K42 hK43 => ?_)
    refine WC.region ?_
    refine WL.runs 2 [(13, .pointer (some ⟨g31, 8, none⟩)), (12, .pointer (some ⟨g31, 5, none⟩))] (fun _ => by kernel_rfl) ?_
    refine WL.load 40 (.pointer (some ⟨g31, 8, none⟩)) (.slice none 0 0) 14 (by kernel_rfl) (run_ld (hC40.get 0 rfl) rfl) ?_
    refine WL.call rfl rfl rfl rfl rfl (by kernel_rfl) (CloneE w37) ?_
    rintro _ w45 ⟨rfl, hF44⟩
    refine ⟨_, rfl, ?_⟩
    have hC46 := hC40.call hF44
    have ho47 := own_fr ho41 hF44 (by simp)
    refine WL.runs 2 [(17, .pointer (some ⟨g31, 8, none⟩)), (16, .pointer (some ⟨g31, 5, none⟩))] (fun _ => by kernel_rfl) ?_
    refine WL.storeM (c' := #[.int .i64 e25.node, .int .i64 e25.boot, .int .i64 e25.seq, .int .i64 e25.time, .int .i64 e25.kind, .int .u32 0, .int .i64 0, .int .i64 0, .slice none 0 0, .int .u32 e25.dip, .int .u32 e25.vip, .bool e25.up]) hC46 0 40 g31 8 (.slice none 0 0) (by kernel_rfl) rfl (by kernel_rfl) (fun w48 hF50 hC51 => ?_)
    have ho52 := own_fr ho47 hF50 (hC46.apartM 0 0 rfl rfl)
    refine WL.done rfl ?_
    refine QX.then_normal (hK43 _ _ ?_)
    refine WC.region ?_
    refine WL.runs 1 [(18, .slice A5 n5 c5)] (fun _ => by kernel_rfl) ?_
    refine WL.load 44 (.pointer (some ⟨g31, 0, none⟩)) (.agg #[.int .i64 e25.node, .int .i64 e25.boot, .int .i64 e25.seq, .int .i64 e25.time, .int .i64 e25.kind, .int .u32 0, .int .i64 0, .int .i64 0, .slice none 0 0, .int .u32 e25.dip, .int .u32 e25.vip, .bool e25.up]) 19 (by kernel_rfl) (run_ld (hC51.get 0 rfl) rfl) ?_
    refine WL.newM hC51 (fun b => .slice (some ⟨b, 0, none⟩) 1 1) (.cells #[.int .i64 e25.node, .int .i64 e25.boot, .int .i64 e25.seq, .int .i64 e25.time, .int .i64 e25.kind, .int .u32 0, .int .i64 0, .int .i64 0, .slice none 0 0, .int .u32 e25.dip, .int .u32 e25.vip, .bool e25.up] 44) 20 (fun _ => by kernel_rfl) (fun g53 w54 hb57 hF55 hC56 => ?_)
    have ho58 := own_fr ho52 hF55 (by simp)
    obtain ⟨v59, w60, hr61, ho62, hF63, hC64, hnil65, hsub66⟩ := app_run Try.prog hC56 0 (v := .slice A5 n5 c5) rfl 35 35 44 12 104 n5 1 1 (some ⟨g53, 0, none⟩) rfl ho58 [.int .i64 e25.node, .int .i64 e25.boot, .int .i64 e25.seq, .int .i64 e25.time, .int .i64 e25.kind, .int .u32 0, .int .i64 0, .int .i64 0, .slice none 0 0, .int .u32 e25.dip, .int .u32 e25.vip, .bool e25.up] rfl (srcOk.blk 1 (hC56.get 1 rfl)) rfl (by simp only [maxLen]; omega) (by omega)
    have ho70 := own_snoc (enc := cellsC) (ys := (log.take i)) e25 ho62
    obtain ⟨A67, c68, rfl, hle69⟩ := own_form ho70
    refine WL.sem (Builtin.append_ #[35, 35] 35 #[.slice A5 n5 c5, .slice (some ⟨g53, 0, none⟩) 1 1]) 21 (.slice A67 (n5 + 1) c68) (by kernel_rfl) hr61 ?_
    refine WL.runs 1 [(3, .slice A67 (n5 + 1) c68)] (fun _ => by kernel_rfl) ?_
    refine WL.done rfl ?_
    refine QX.block_normal ?_
    refine QX.then_normal (hK22 _ _ ?_)
    refine WC.region ?_
    refine WL.runs 1 [(22, .int .i64 (IntKind.i64.wrap ((i : Int) + 1)))] (fun _ => by kernel_rfl) ?_
    refine WL.recast (show (.int .i64 (IntKind.i64.wrap ((i : Int) + 1)) : Value) = .int .i64 ((i : Int) + 1) from by rw [wrap_in_i64 ((i : Int) + 1) (by omega) (by omega)]) ?_
    refine WL.runs 1 [(8, .int .i64 ((i : Int) + 1))] (fun _ => by kernel_rfl) ?_
    refine WL.done rfl ?_
    refine QX.then_normal ?_
    have hC71 := hC64.pick [] [0] rfl rfl
    refine fun a_ ha_ => hK11 _ _ _ ?_ ⟨i + 1, A67, n5 + 1, c68, rfl, rfl, hC71, by rw [take_snocC he26]; exact ho70, by omega⟩ a_ (ha_.weaken (sub_of ⟨rfl, rfl, rfl, rfl, rfl, rfl, trivial⟩))
    omega
  · -- (i : Int) < (log.length : Int): false
    have t20 : (log.length : Int) ≤ (i : Int) := by have q_ := of_decide_eq_false t20b; omega
    refine WC.cond_false rfl ?_
    refine WC.exit ?_
    refine QX.then_exit ?_
    refine QX.then_exit ?_
    refine QX.block_hit ?_
    refine QX.then_normal (hK6 _ _ ?_)
    refine WC.seq (fun K72 hK73 => ?_)
    refine WC.region ?_
    refine WL.runs 2 [(2, .slice A5 n5 c5), (23, .slice A5 n5 c5)] (fun _ => by kernel_rfl) ?_
    refine WL.done rfl ?_
    refine QX.then_normal (hK73 _ _ ?_)
    refine WC.ret ?_
    refine (hret _ _ _ rfl ?_).1
    clear hN hret hret' hK73 hK19 hK17 hK8 hK6 hK4 hK2
    have hie_ : i = log.length := by omega
    subst hie_
    have ho_ := hrow
    rw [List.take_length] at ho_
    have hnn_ : n5 = log.length := by omega
    subst hnn_
    exact ⟨_, rfl, hC15.fr, own_base ho_ (newF_of hC15 0 rfl (fun _ h_ => nomatch h_) (fun _ h_ => nomatch h_))⟩

theorem same_ct (g : Nat) (c d : Cm) (w : World) (hg : w.heap[g]? = some (.cells #[.int .i64 c.node, .int .i64 c.boot, .int .i64 c.seq, .int .i64 c.time, .int .i64 c.kind, .int .u32 0, .int .i64 0, .int .i64 0, .slice none 0 0, .int .u32 c.dip, .int .u32 c.vip, .bool c.up] 44 (0, 0))) : Calls Try.prog 43 #[.agg #[.int .i64 d.node, .int .i64 d.boot, .int .i64 d.seq, .int .i64 d.time, .int .i64 d.kind, .int .u32 0, .int .i64 0, .int .i64 0, .slice none 0 0, .int .u32 d.dip, .int .u32 d.vip, .bool d.up], .pointer (some ⟨g, 0, none⟩)] w fun e w' => e = .returned (.bool (idC d == idC c)) ∧ Fr w w' [] := by
  refine enterD (n := 23) Try.func43 rfl rfl (Nat.le_of_ble_eq_true rfl) ?_
  intro Q0 hN hret hret'
  have hC := Cx.startMs w [(g, .cells #[.int .i64 c.node, .int .i64 c.boot, .int .i64 c.seq, .int .i64 c.time, .int .i64 c.kind, .int .u32 0, .int .i64 0, .int .i64 0, .slice none 0 0, .int .u32 c.dip, .int .u32 c.vip, .bool c.up] 44)] (by simp) (by simp [hg])
  refine WC.seq (fun K1 hK2 => ?_)
  refine WC.region ?_
  refine WL.newM hC (fun b => .pointer (some ⟨b, 0, none⟩)) (.cells #[.int .i64 d.node, .int .i64 d.boot, .int .i64 d.seq, .int .i64 d.time, .int .i64 d.kind, .int .u32 0, .int .i64 0, .int .i64 0, .slice none 0 0, .int .u32 d.dip, .int .u32 d.vip, .bool d.up] 44) 2 (fun _ => by kernel_rfl) (fun g3 w4 hb7 hF5 hC6 => ?_)
  refine WL.runs 1 [(3, .bool false)] (fun _ => by kernel_rfl) ?_
  refine WL.done rfl ?_
  refine QX.then_normal (hK2 _ _ ?_)
  refine WC.seq (fun K8 hK9 => ?_)
  refine WC.region ?_
  refine WL.runs 1 [(4, .pointer (some ⟨g3, 0, none⟩))] (fun _ => by kernel_rfl) ?_
  refine WL.load 3 (.pointer (some ⟨g3, 0, none⟩)) (.int .i64 d.node) 5 (by kernel_rfl) (run_ld (hC6.get 1 rfl) rfl) ?_
  refine WL.runs 1 [(6, .pointer (some ⟨g, 0, none⟩))] (fun _ => by kernel_rfl) ?_
  refine WL.load 3 (.pointer (some ⟨g, 0, none⟩)) (.int .i64 c.node) 7 (by kernel_rfl) (run_ld (hC6.get 0 rfl) rfl) ?_
  refine WL.runs 2 [(9, .bool (d.node == c.node)), (8, .bool (d.node == c.node))] (fun _ => by kernel_rfl) ?_
  refine WL.test_at 9 (d.node == c.node) rfl (fun t10b => ?_) (fun t10b => ?_)
  · -- d.node = c.node: true
    have t10 : d.node = c.node := by simpa using t10b
    refine WL.runs 1 [(10, .pointer (some ⟨g3, 1, none⟩))] (fun _ => by kernel_rfl) ?_
    refine WL.load 3 (.pointer (some ⟨g3, 1, none⟩)) (.int .i64 d.boot) 11 (by kernel_rfl) (run_ld (hC6.get 1 rfl) rfl) ?_
    refine WL.runs 1 [(12, .pointer (some ⟨g, 1, none⟩))] (fun _ => by kernel_rfl) ?_
    refine WL.load 3 (.pointer (some ⟨g, 1, none⟩)) (.int .i64 c.boot) 13 (by kernel_rfl) (run_ld (hC6.get 0 rfl) rfl) ?_
    refine WL.runs 3 [(16, .bool (d.boot == c.boot)), (15, .bool (d.boot == c.boot)), (14, .bool (d.boot == c.boot))] (fun _ => by kernel_rfl) ?_
    refine WL.test_at 16 (d.boot == c.boot) rfl (fun t11b => ?_) (fun t11b => ?_)
    · -- d.boot = c.boot: true
      have t11 : d.boot = c.boot := by simpa using t11b
      refine WL.runs 1 [(17, .pointer (some ⟨g3, 2, none⟩))] (fun _ => by kernel_rfl) ?_
      refine WL.load 3 (.pointer (some ⟨g3, 2, none⟩)) (.int .i64 d.seq) 18 (by kernel_rfl) (run_ld (hC6.get 1 rfl) rfl) ?_
      refine WL.runs 1 [(19, .pointer (some ⟨g, 2, none⟩))] (fun _ => by kernel_rfl) ?_
      refine WL.load 3 (.pointer (some ⟨g, 2, none⟩)) (.int .i64 c.seq) 20 (by kernel_rfl) (run_ld (hC6.get 0 rfl) rfl) ?_
      refine WL.runs 3 [(3, .bool (d.seq == c.seq)), (22, .bool (d.seq == c.seq)), (21, .bool (d.seq == c.seq))] (fun _ => by kernel_rfl) ?_
      refine WL.done rfl ?_
      refine QX.then_normal (hK9 _ _ ?_)
      refine WC.ret ?_
      refine (hret _ _ _ rfl ?_).1
      clear hN hret hret' hK9 hK2
      exact ⟨by rw [idC_eq]; simp [shut, *]; try rfl, hC6.fr.shrink (by intro x hx; simp at hx; subst hx; exact (hC6.get 0 rfl).trans hg.symm)⟩
    · -- d.boot = c.boot: false
      have t11 : ¬ (d.boot = c.boot) := by simpa using t11b
      refine WL.runs 7 [(3, .bool false), (22, .bool false), (21, undef), (20, undef), (19, undef), (18, undef), (17, undef)] (fun _ => by kernel_rfl) ?_
      refine WL.done rfl ?_
      refine QX.then_normal (hK9 _ _ ?_)
      refine WC.ret ?_
      refine (hret _ _ _ rfl ?_).1
      clear hN hret hret' hK9 hK2
      exact ⟨by rw [idC_eq]; simp [shut, *]; try rfl, hC6.fr.shrink (by intro x hx; simp at hx; subst hx; exact (hC6.get 0 rfl).trans hg.symm)⟩
  · -- d.node = c.node: false
    have t10 : ¬ (d.node = c.node) := by simpa using t10b
    refine WL.runs 14 [(3, .bool false), (22, .bool false), (21, undef), (20, undef), (19, undef), (18, undef), (17, undef), (16, .bool false), (15, .bool false), (14, undef), (13, undef), (12, undef), (11, undef), (10, undef)] (fun _ => by kernel_rfl) ?_
    refine WL.done rfl ?_
    refine QX.then_normal (hK9 _ _ ?_)
    refine WC.ret ?_
    refine (hret _ _ _ rfl ?_).1
    clear hN hret hret' hK9 hK2
    exact ⟨by rw [idC_eq]; simp [shut, *]; try rfl, hC6.fr.shrink (by intro x hx; simp at hx; subst hx; exact (hC6.get 0 rfl).trans hg.symm)⟩

theorem IndexFunc_ct (g : Nat) (c : Cm) (A : Option Addr) (cp : Nat) (log : List Cm) (w : World) (hg : w.heap[g]? = some (.cells #[.int .i64 c.node, .int .i64 c.boot, .int .i64 c.seq, .int .i64 c.time, .int .i64 c.kind, .int .u32 0, .int .i64 0, .int .i64 0, .slice none 0 0, .int .u32 c.dip, .int .u32 c.vip, .bool c.up] 44 (0, 0))) (hr : Rd w 12 cellsC A log) (hlen : log.length ≤ 70000) : Calls Try.prog 42 #[.slice A log.length cp, .func (.func 43) #[] #[.pointer (some ⟨g, 0, none⟩)]] w fun e w' => e = .returned (.int .i64 (placeN log c - 1)) ∧ Fr w w' [] := by
  refine enterD (n := 19) Try.func42 rfl rfl (Nat.le_of_ble_eq_true rfl) ?_
  intro Q0 hN hret hret'
  have hC := Cx.start w
  refine WC.seq (fun K1 hK2 => ?_)
  refine WC.region ?_
  refine WL.runs 1 [(4, .int .i64 0)] (fun _ => by kernel_rfl) ?_
  refine WL.done rfl ?_
  refine QX.then_normal (hK2 _ _ ?_)
  refine WC.seq (fun K3 hK4 => ?_)
  refine WC.seq (fun K5 hK6 => ?_)
  refine WC.region ?_
  refine WL.runs 3 [(8, .int .i64 0), (7, .int .i64 (log.length : Int)), (6, .slice A log.length cp)] (fun _ => by kernel_rfl) ?_
  refine WL.done rfl ?_
  refine QX.then_normal (hK6 _ _ ?_)
  refine WC.block ?_
  refine WC.loop (fun m_ E_ w_ => ∃ (i : Nat), m_ = log.length - i ∧ E_ = [(0, .slice A log.length cp), (1, .func (.func 43) #[] #[.pointer (some ⟨g, 0, none⟩)]), (7, .int .i64 (log.length : Int)), (8, .int .i64 (i : Int))] ∧ Cx w [] w_ [] [] ∧ (i ≤ log.length ∧ (log.take i).all (fun d => !(idC d == idC c)) = true)) ⟨_, _, ⟨0, rfl, rfl, hC, Nat.zero_le _, rfl⟩, sub_of ⟨rfl, rfl, rfl, rfl, trivial⟩⟩ (fun m10 E_ w11 K7 hK8 hI9 => ?_)
  obtain ⟨i, rfl, rfl, hC12, hi, hall⟩ := hI9
  refine WC.seq (fun K13 hK14 => ?_)
  refine WC.region ?_
  refine WL.runs 1 [(9, .bool (decide ((i : Int) < (log.length : Int))))] (fun _ => by kernel_rfl) ?_
  refine WL.done rfl ?_
  refine QX.then_normal (hK14 _ _ ?_)
  refine WC.seq (fun K15 hK16 => ?_)
  refine WC.test_at 9 (decide ((i : Int) < (log.length : Int))) rfl (fun t17b => ?_) (fun t17b => ?_)
  · -- (i : Int) < (log.length : Int): true
    have t17 : (i : Int) < (log.length : Int) := by have q_ := of_decide_eq_true t17b; omega
    refine WC.cond_true rfl ?_
    refine WC.skip ?_
    refine QX.then_normal (hK16 _ _ ?_)
    refine WC.seq (fun K18 hK19 => ?_)
    refine WC.block ?_
    refine WC.seq (fun K20 hK21 => ?_)
    refine WC.region ?_
    refine WL.runs 2 [(5, .int .i64 (i : Int)), (10, .int .i64 (i : Int))] (fun _ => by kernel_rfl) ?_
    refine WL.done rfl ?_
    refine QX.then_normal (hK21 _ _ ?_)
    refine WC.seq (fun K22 hK23 => ?_)
    refine WC.region ?_
    refine WL.runs 3 [(13, .int .i64 (i : Int)), (12, .slice A log.length cp), (11, .func (.func 43) #[] #[.pointer (some ⟨g, 0, none⟩)])] (fun _ => by kernel_rfl) ?_
    obtain ⟨e24, he25⟩ := get_some (xs := log) (i := i) (by omega)
    obtain ⟨b26, o28, hA27, hc29⟩ := hr.at_ _ _ he25
    refine WL.index A log.length cp 14 .i64 (i : Int) b26 o28 i 12 (by kernel_rfl) hA27 (by omega) (by omega) (o28 + i * 12) (by first | (simp; done) | omega) ?_
    refine WL.load 44 (.pointer (some ⟨b26, o28 + i * 12, none⟩)) (.agg #[.int .i64 e24.node, .int .i64 e24.boot, .int .i64 e24.seq, .int .i64 e24.time, .int .i64 e24.kind, .int .u32 0, .int .i64 0, .int .i64 0, .slice none 0 0, .int .u32 e24.dip, .int .u32 e24.vip, .bool e24.up]) 15 (by kernel_rfl) (run_rdN (l := [.int .i64 e24.node, .int .i64 e24.boot, .int .i64 e24.seq, .int .i64 e24.time, .int .i64 e24.kind, .int .u32 0, .int .i64 0, .int .i64 0, .slice none 0 0, .int .u32 e24.dip, .int .u32 e24.vip, .bool e24.up]) rfl rfl (fun j u hu => by have hq_ := hC12.fr.cell (hc29 j u hu) (by simp); simpa [Nat.add_assoc] using hq_)) ?_
    refine WL.call rfl rfl rfl rfl rfl (by kernel_rfl) (same_ct g c e24 w11 (hC12.fr.has hg (by simp))) ?_
    rintro _ w31 ⟨rfl, hF30⟩
    refine ⟨_, rfl, ?_⟩
    have hC32 := hC12.call hF30
    refine WL.done rfl ?_
    refine QX.then_normal (hK23 _ _ ?_)
    refine WC.test_at 16 (idC e24 == idC c) rfl (fun t33b => ?_) (fun t33b => ?_)
    · -- (idC e24 == idC c) = true: true
      refine WC.cond_true rfl ?_
      refine WC.seq (fun K34 hK35 => ?_)
      refine WC.region ?_
      refine WL.runs 2 [(4, .int .i64 (i : Int)), (17, .int .i64 (i : Int))] (fun _ => by kernel_rfl) ?_
      refine WL.done rfl ?_
      refine QX.then_normal (hK35 _ _ ?_)
      refine WC.ret ?_
      refine QX.block_ret ?_
      refine QX.then_ret ?_
      refine QX.then_ret ?_
      refine QX.block_ret ?_
      refine QX.then_ret ?_
      refine (hret _ _ _ rfl ?_).1
      clear hN hret hret' hK35 hK23 hK21 hK19 hK16 hK14 hK6 hK4 hK2
      exact ⟨by show Ending.returned (.int .i64 (i : Int)) = _; rw [place_hit he25 hall (by simpa using t33b)]; congr 2; omega, hC32.fr⟩
    · -- (idC e24 == idC c) = true: false
      refine WC.cond_false rfl ?_
      refine WC.skip ?_
      refine QX.block_normal ?_
      refine QX.then_normal (hK19 _ _ ?_)
      refine WC.region ?_
      refine WL.runs 1 [(18, .int .i64 (IntKind.i64.wrap ((i : Int) + 1)))] (fun _ => by kernel_rfl) ?_
      refine WL.recast (show (.int .i64 (IntKind.i64.wrap ((i : Int) + 1)) : Value) = .int .i64 ((i : Int) + 1) from by rw [wrap_in_i64 ((i : Int) + 1) (by omega) (by omega)]) ?_
      refine WL.runs 1 [(8, .int .i64 ((i : Int) + 1))] (fun _ => by kernel_rfl) ?_
      refine WL.done rfl ?_
      refine QX.then_normal ?_
      have hC36 := hC32.pick [] [] rfl rfl
      refine fun a_ ha_ => hK8 _ _ _ ?_ ⟨i + 1, rfl, rfl, hC36, by omega, place_miss he25 hall (by simpa using t33b)⟩ a_ (ha_.weaken (sub_of ⟨rfl, rfl, rfl, rfl, trivial⟩))
      omega
  · -- (i : Int) < (log.length : Int): false
    have t17 : (log.length : Int) ≤ (i : Int) := by have q_ := of_decide_eq_false t17b; omega
    refine WC.cond_false rfl ?_
    refine WC.exit ?_
    refine QX.then_exit ?_
    refine QX.then_exit ?_
    refine QX.block_hit ?_
    refine QX.then_normal (hK4 _ _ ?_)
    refine WC.seq (fun K37 hK38 => ?_)
    refine WC.region ?_
    refine WL.runs 1 [(4, .int .i64 (-1))] (fun _ => by kernel_rfl) ?_
    refine WL.done rfl ?_
    refine QX.then_normal (hK38 _ _ ?_)
    refine WC.ret ?_
    refine (hret _ _ _ rfl ?_).1
    clear hN hret hret' hK38 hK16 hK14 hK6 hK4 hK2
    rw [take_all (by omega)] at hall
    exact ⟨by show Ending.returned (.int .i64 (-1)) = _; rw [place_none hall]; rfl, hC12.fr⟩

theorem placeN_span (log : List Cm) (c : Cm) : 0 ≤ placeN log c ∧ placeN log c ≤ (log.length : Int) := by
  unfold placeN
  split
  · rename_i i h
    have := (List.findIdx?_eq_some_iff_getElem.1 h).1
    omega
  · omega
theorem place_ct (c : Cm) (A : Option Addr) (cp : Nat) (log : List Cm) (w : World) (hr : Rd w 12 cellsC A log) (hlen : log.length ≤ 70000) : Calls Try.prog 27 #[.slice A log.length cp, .agg #[.int .i64 c.node, .int .i64 c.boot, .int .i64 c.seq, .int .i64 c.time, .int .i64 c.kind, .int .u32 0, .int .i64 0, .int .i64 0, .slice none 0 0, .int .u32 c.dip, .int .u32 c.vip, .bool c.up]] w fun e w' => e = .returned (.int .i64 (placeN log c)) ∧ Fr w w' [] := by
  refine enterD (n := 9) Try.func27 rfl rfl (Nat.le_of_ble_eq_true rfl) ?_
  intro Q0 hN hret hret'
  obtain ⟨hps0_, hps1_⟩ := placeN_span log c
  have hC := Cx.start w
  refine WC.seq (fun K1 hK2 => ?_)
  refine WC.region ?_
  refine WL.newM hC (fun b => .pointer (some ⟨b, 0, none⟩)) (.cells #[.int .i64 c.node, .int .i64 c.boot, .int .i64 c.seq, .int .i64 c.time, .int .i64 c.kind, .int .u32 0, .int .i64 0, .int .i64 0, .slice none 0 0, .int .u32 c.dip, .int .u32 c.vip, .bool c.up] 44) 3 (fun _ => by kernel_rfl) (fun g3 w4 hb7 hF5 hC6 => ?_)
  refine WL.runs 1 [(4, .int .i64 0)] (fun _ => by kernel_rfl) ?_
  refine WL.done rfl ?_
  refine QX.then_normal (hK2 _ _ ?_)
  refine WC.seq (fun K8 hK9 => ?_)
  refine WC.region ?_
  refine WL.runs 2 [(6, .func (.func 43) #[] #[.pointer (some ⟨g3, 0, none⟩)]), (5, .slice A log.length cp)] (fun _ => by kernel_rfl) ?_
  refine WL.call rfl rfl rfl rfl rfl (by kernel_rfl) (IndexFunc_ct g3 c A cp log w4 (hC6.get 0 rfl) (Rd.fr hr hC6.fr) (by omega)) ?_
  rintro _ w11 ⟨rfl, hF10⟩
  refine ⟨_, rfl, ?_⟩
  have hC12 := hC6.call hF10
  refine WL.runs 1 [(8, .int .i64 (IntKind.i64.wrap ((placeN log c - 1) + 1)))] (fun _ => by kernel_rfl) ?_
  refine WL.recast (show (.int .i64 (IntKind.i64.wrap ((placeN log c - 1) + 1)) : Value) = .int .i64 ((placeN log c - 1) + 1) from by rw [wrap_in_i64 ((placeN log c - 1) + 1) (by omega) (by omega)]) ?_
  refine WL.runs 1 [(4, .int .i64 ((placeN log c - 1) + 1))] (fun _ => by kernel_rfl) ?_
  refine WL.done rfl ?_
  refine QX.then_normal (hK9 _ _ ?_)
  refine WC.ret ?_
  refine (hret _ _ _ rfl ?_).1
  clear hN hret hret' hK9 hK2
  exact ⟨by show Ending.returned (.int .i64 _) = _; congr 2; omega, hC12.fr⟩

theorem compare_ct (a b : Int × Int) (w : World) : Calls Try.prog 41 #[.agg #[.int .i64 a.1, .int .i64 a.2], .agg #[.int .i64 b.1, .int .i64 b.2]] w fun e w' => e = .returned (.int .i64 (orI [cmpI a.1 b.1, cmpI a.2 b.2])) ∧ Fr w w' [] := by
  refine enterD (n := 17) Try.func41 rfl rfl (Nat.le_of_ble_eq_true rfl) ?_
  intro Q0 hN hret hret'
  have hC := Cx.start w
  refine WC.seq (fun K1 hK2 => ?_)
  refine WC.region ?_
  refine WL.newM hC (fun b => .pointer (some ⟨b, 0, none⟩)) (.cells #[.int .i64 a.1, .int .i64 a.2] 31) 2 (fun _ => by kernel_rfl) (fun g3 w4 hb7 hF5 hC6 => ?_)
  refine WL.newM hC6 (fun b => .pointer (some ⟨b, 0, none⟩)) (.cells #[.int .i64 b.1, .int .i64 b.2] 31) 3 (fun _ => by kernel_rfl) (fun g8 w9 hb12 hF10 hC11 => ?_)
  refine WL.runs 1 [(4, .int .i64 0)] (fun _ => by kernel_rfl) ?_
  refine WL.done rfl ?_
  refine QX.then_normal (hK2 _ _ ?_)
  refine WC.seq (fun K13 hK14 => ?_)
  refine WC.drawC hC11 [] (by kernel_rfl) (fun w15 hF16 hC17 hS18 => ?_)
  refine WD.pure (NoPanic.then hN) 0 5 (.pointer (some ⟨g3, 0, none⟩)) (by kernel_rfl) (fun _ => by kernel_rfl) hS18 ?_
  refine WD.pure (NoPanic.then hN) 2 7 (.pointer (some ⟨g8, 0, none⟩)) (by kernel_rfl) (fun _ => by kernel_rfl) hS18 ?_
  refine WD.pure (NoPanic.then hN) 5 10 (.pointer (some ⟨g3, 1, none⟩)) (by kernel_rfl) (fun _ => by kernel_rfl) hS18 ?_
  refine WD.pure (NoPanic.then hN) 7 12 (.pointer (some ⟨g8, 1, none⟩)) (by kernel_rfl) (fun _ => by kernel_rfl) hS18 ?_
  refine WD.load (NoPanic.then hN) 1 3 (.pointer (some ⟨g3, 0, none⟩)) (.int .i64 a.1) 6 (by kernel_rfl) (by kernel_rfl) (fun _ hS_ => run_ld (Fr.has hS_ (hC17.get 0 rfl) (by simp)) rfl) hS18 ?_
  refine WD.load (NoPanic.then hN) 3 3 (.pointer (some ⟨g8, 0, none⟩)) (.int .i64 b.1) 8 (by kernel_rfl) (by kernel_rfl) (fun _ hS_ => run_ld (Fr.has hS_ (hC17.get 1 rfl) (by simp)) rfl) hS18 ?_
  refine WD.load (NoPanic.then hN) 6 3 (.pointer (some ⟨g3, 1, none⟩)) (.int .i64 a.2) 11 (by kernel_rfl) (by kernel_rfl) (fun _ hS_ => run_ld (Fr.has hS_ (hC17.get 0 rfl) (by simp)) rfl) hS18 ?_
  refine WD.load (NoPanic.then hN) 8 3 (.pointer (some ⟨g8, 1, none⟩)) (.int .i64 b.2) 13 (by kernel_rfl) (by kernel_rfl) (fun _ hS_ => run_ld (Fr.has hS_ (hC17.get 1 rfl) (by simp)) rfl) hS18 ?_
  refine WD.call 4 (by kernel_rfl) rfl rfl rfl rfl rfl (by kernel_rfl) (compare_int a.1 b.1 w15) ?_
  rintro _ w20 ⟨rfl, hF19⟩
  have hS22 := hS18.trans hF19 (by simp)
  refine ⟨_, rfl, hS22, ?_⟩
  have hC21 := hC17.call hF19
  refine WD.call 9 (by kernel_rfl) rfl rfl rfl rfl rfl (by kernel_rfl) (compare_int a.2 b.2 w20) ?_
  rintro _ w24 ⟨rfl, hF23⟩
  have hS26 := hS22.trans hF23 (by simp)
  refine ⟨_, rfl, hS26, ?_⟩
  have hC25 := hC21.call hF23
  refine WD.new 10 (fun b => .slice (some ⟨b, 0, none⟩) 2 2) (.cells #[.int .i64 (cmpI a.1 b.1), .int .i64 (cmpI a.2 b.2)] 3) (by kernel_rfl) rfl rfl rfl rfl rfl (fun _ => by kernel_rfl) (fun g27 w28 hb31 hl32 hF29 ho33 => ?_)
  have hC30 := hC25.callB hF29 hb31 ho33
  have hS34 := hS26.trans hF29 (by simp)
  refine ⟨hS34, ?_⟩
  refine WD.call 11 (by kernel_rfl) rfl rfl rfl rfl rfl (by kernel_rfl) (or_int (some ⟨g27, 0, none⟩) 2 [cmpI a.1 b.1, cmpI a.2 b.2] w28 (Rd.blk (hC30.get 2 rfl) (encI_len _) rfl) (by simp)) ?_
  rintro _ w36 ⟨rfl, hF35⟩
  have hS38 := hS34.trans hF35 (by simp)
  refine ⟨_, rfl, hS38, ?_⟩
  have hC37 := hC30.call hF35
  refine WD.pure (NoPanic.then hN) 12 4 (.int .i64 (orI [cmpI a.1 b.1, cmpI a.2 b.2])) (by kernel_rfl) (fun _ => by kernel_rfl) hS38 ?_
  refine WD.done (by kernel_rfl) ?_
  refine QX.then_normal (hK14 _ _ ?_)
  refine WC.ret ?_
  refine (hret _ _ _ rfl ?_).1
  clear hN hret hret' hK14 hK2
  exact ⟨rfl, hC37.fr⟩

theorem Less_ct (a b : Int × Int) (w : World) : Calls Try.prog 25 #[.agg #[.int .i64 a.1, .int .i64 a.2], .agg #[.int .i64 b.1, .int .i64 b.2]] w fun e w' => e = .returned (.bool (decide (orI [cmpI a.1 b.1, cmpI a.2 b.2] < 0))) ∧ Fr w w' [] := by
  refine enterD (n := 9) Try.func25 rfl rfl (Nat.le_of_ble_eq_true rfl) ?_
  intro Q0 hN hret hret'
  have hC := Cx.start w
  refine WC.seq (fun K1 hK2 => ?_)
  refine WC.region ?_
  refine WL.newM hC (fun b => .pointer (some ⟨b, 0, none⟩)) (.cells #[.int .i64 a.1, .int .i64 a.2] 31) 2 (fun _ => by kernel_rfl) (fun g3 w4 hb7 hF5 hC6 => ?_)
  refine WL.newM hC6 (fun b => .pointer (some ⟨b, 0, none⟩)) (.cells #[.int .i64 b.1, .int .i64 b.2] 31) 3 (fun _ => by kernel_rfl) (fun g8 w9 hb12 hF10 hC11 => ?_)
  refine WL.runs 1 [(4, .bool false)] (fun _ => by kernel_rfl) ?_
  refine WL.done rfl ?_
  refine QX.then_normal (hK2 _ _ ?_)
  refine WC.seq (fun K13 hK14 => ?_)
  refine WC.region ?_
  refine WL.load 31 (.pointer (some ⟨g3, 0, none⟩)) (.agg #[.int .i64 a.1, .int .i64 a.2]) 5 (by kernel_rfl) (run_ld (hC11.get 0 rfl) rfl) ?_
  refine WL.load 31 (.pointer (some ⟨g8, 0, none⟩)) (.agg #[.int .i64 b.1, .int .i64 b.2]) 6 (by kernel_rfl) (run_ld (hC11.get 1 rfl) rfl) ?_
  refine WL.call rfl rfl rfl rfl rfl (by kernel_rfl) (compare_ct (a.1, a.2) (b.1, b.2) w9) ?_
  rintro _ w16 ⟨rfl, hF15⟩
  refine ⟨_, rfl, ?_⟩
  have hC17 := hC11.call hF15
  refine WL.runs 2 [(4, .bool (decide ((orI [cmpI a.1 b.1, cmpI a.2 b.2]) < 0))), (8, .bool (decide ((orI [cmpI a.1 b.1, cmpI a.2 b.2]) < 0)))] (fun _ => by kernel_rfl) ?_
  refine WL.done rfl ?_
  refine QX.then_normal (hK14 _ _ ?_)
  refine WC.ret ?_
  refine (hret _ _ _ rfl ?_).1
  clear hN hret hret' hK14 hK2
  exact ⟨rfl, hC17.fr⟩

end Go.Proofs.Ytlpmmepbfafpfaa
