/- Contracts of functions of the program, each proved by a walk through its code; conditions stand in the statements. -/
import Derived.Test.YtimphmcoafapgaaFlB11
namespace Go.Proofs.Ytimphmcoafapgaa
set_option linter.unusedSimpArgs false
set_option linter.unusedVariables false
set_option linter.unusedSectionVars false
open Go Go.RowKit Go.Tw
set_option linter.unusedVariables false
set_option maxRecDepth 20000
theorem New_ct (a n : Int) (w : World) (ha : 0 ≤ a ∧ a ≤ 4096) (hn : 0 ≤ n ∧ n ≤ 4096) : Calls Try.prog 10 #[.int .i64 a, .int .i64 n] w fun e w' => ∃ p b, e = .returned (.tuple #[.pointer (some ⟨p, 0, none⟩), .nilIface]) ∧ Fr w w' [] ∧ tbAt w' p b ⟨[], 0, a, 0, n⟩ ∧ w.heap.size ≤ p ∧ w.heap.size ≤ b := by
  refine enterD (n := 28) Try.func10 rfl rfl (Nat.le_of_ble_eq_true rfl) ?_
  intro Q0 hN hret hret'
  have hC := Cx.start w
  refine WC.seq (fun K1 hK2 => ?_)
  refine WC.region ?_
  refine WL.runs 2 [(5, .nilIface), (4, .pointer none)] (fun _ => by kernel_rfl) ?_
  refine WL.done rfl ?_
  refine QX.then_normal (hK2 _ _ ?_)
  refine WC.seq (fun K3 hK4 => ?_)
  refine WC.seq (fun K5 hK6 => ?_)
  refine WC.region ?_
  refine WL.runs 3 [(8, .bool (decide (a < 0))), (7, .bool (decide (a < 0))), (6, .int .i64 a)] (fun _ => by kernel_rfl) ?_
  refine WL.know 8 (.bool (decide (a < 0))) (.bool false) rfl (congrArg Value.bool (by exact decide_eq_false (by omega))) ?_
  refine WL.runs 4 [(12, .bool (decide (a > 4096))), (11, .bool (decide (a > 4096))), (10, .bool (decide (a > 4096))), (9, .int .i64 a)] (fun _ => by kernel_rfl) ?_
  refine WL.know 12 (.bool (decide (a > 4096))) (.bool false) rfl (congrArg Value.bool (by exact decide_eq_false (by omega))) ?_
  refine WL.runs 4 [(16, .bool (decide (n < 0))), (15, .bool (decide (n < 0))), (14, .bool (decide (n < 0))), (13, .int .i64 n)] (fun _ => by kernel_rfl) ?_
  refine WL.know 16 (.bool (decide (n < 0))) (.bool false) rfl (congrArg Value.bool (by exact decide_eq_false (by omega))) ?_
  refine WL.runs 3 [(19, .bool (decide (n > 4096))), (18, .bool (decide (n > 4096))), (17, .int .i64 n)] (fun _ => by kernel_rfl) ?_
  refine WL.done rfl ?_
  refine QX.then_normal (hK6 _ _ ?_)
  refine WC.know 19 (.bool (decide (n > 4096))) (.bool false) rfl (congrArg Value.bool (by exact decide_eq_false (by omega))) ?_
  refine WC.cond_false rfl ?_
  refine WC.skip ?_
  refine QX.then_normal (hK4 _ _ ?_)
  refine WC.seq (fun K7 hK8 => ?_)
  refine WC.region ?_
  refine WL.newM hC (fun b => .map (some b)) (.map #[] 0) 21 (fun _ => by kernel_rfl) (fun g9 w10 hb13 hF11 hC12 => ?_)
  refine WL.runs 5 [(26, .agg #[.map (some g9), .int .i64 0, .int .i64 a, .int .i64 0, .int .i64 n]), (25, .agg #[.int .i64 0, .int .i64 n]), (24, .int .i64 n), (23, .agg #[.int .i64 0, .int .i64 a]), (22, .int .i64 a)] (fun _ => by kernel_rfl) ?_
  refine WL.newM hC12 (fun b => .pointer (some ⟨b, 0, none⟩)) (.cells #[.map (some g9), .int .i64 0, .int .i64 a, .int .i64 0, .int .i64 n] 75) 27 (fun _ => by kernel_rfl) (fun g14 w15 hb18 hF16 hC17 => ?_)
  refine WL.runs 2 [(5, .nilIface), (4, .pointer (some ⟨g14, 0, none⟩))] (fun _ => by kernel_rfl) ?_
  refine WL.done rfl ?_
  refine QX.then_normal (hK8 _ _ ?_)
  refine WC.ret ?_
  refine (hret _ _ _ rfl ?_).1
  clear hN hret hret' hK8 hK6 hK4 hK2
  exact ⟨_, _, rfl, hC17.fr, ⟨hC17.ne 1 0 rfl rfl (by decide), hC17.get 1 rfl, _, _, hC17.get 0 rfl, (MapOk.nil encF encE)⟩, (hC17.new_ge 1 rfl).resolve_left (by simp), (hC17.new_ge 0 rfl).resolve_left (by simp)⟩

theorem Put_ct (p b : Nat) (T : Tb) (f : Flow) (dip ep now : Int) (w : World) (ht : tbAt w p b T) (hth : -1000000000 ≤ T.th ∧ T.th ≤ 1000000000) (huh : -1000000000 ≤ T.uh ∧ T.uh ≤ 1000000000) : Calls Try.prog 11 #[.pointer (some ⟨p, 0, none⟩), .agg #[.int .i64 f.proto, .int .u32 f.src, .int .i64 f.sport, .int .u32 f.dst, .int .i64 f.dport], .int .u32 dip, .int .i64 ep, .int .i64 now] w fun e w' => ∃ T' o fd er, e = .returned (.tuple #[.agg #[.int .i64 o.flow.proto, .int .u32 o.flow.src, .int .i64 o.flow.sport, .int .u32 o.flow.dst, .int .i64 o.flow.dport, .int .u32 o.dip, .int .i64 o.epoch, .bool o.trusted, .bool o.closing, .int .i64 o.last], .bool fd, errV 47 er]) ∧ Fr w w' [p, b] ∧ tbAt w' p b T' ∧ PutRel T f dip ep now T' o fd er := by
  refine enterD (n := 99) Try.func11 rfl rfl (Nat.le_of_ble_eq_true rfl) ?_
  intro Q0 hN hret hret'
  obtain ⟨hpb, hp_, es, cl, hb_, hm_⟩ := ht
  have hC := Cx.startMs w [(p, .cells #[.map (some b), .int .i64 T.th, .int .i64 T.tm, .int .i64 T.uh, .int .i64 T.um] 75), (b, .map es cl)] (by simpa using hpb) (by simp [hp_, hb_])
  refine WC.seq (fun K1 hK2 => ?_)
  refine WC.region ?_
  refine WL.newM hC (fun b => .pointer (some ⟨b, 0, none⟩)) (.cells #[.int .i64 f.proto, .int .u32 f.src, .int .i64 f.sport, .int .u32 f.dst, .int .i64 f.dport] 32) 6 (fun _ => by kernel_rfl) (fun g3 w4 hb7 hF5 hC6 => ?_)
  refine WL.newM hC6 (fun b => .pointer (some ⟨b, 0, none⟩)) (.cells #[.int .i64 0, .int .u32 0, .int .i64 0, .int .u32 0, .int .i64 0, .int .u32 0, .int .i64 0, .bool false, .bool false, .int .i64 0] 34) 10 (fun _ => by kernel_rfl) (fun g8 w9 hb12 hF10 hC11 => ?_)
  refine WL.runs 2 [(12, .nilIface), (11, .bool false)] (fun _ => by kernel_rfl) ?_
  refine WL.done rfl ?_
  refine QX.then_normal (hK2 _ _ ?_)
  refine WC.seq (fun K13 hK14 => ?_)
  refine WC.seq (fun K15 hK16 => ?_)
  refine WC.region ?_
  refine WL.load 32 (.pointer (some ⟨g3, 0, none⟩)) (.agg #[.int .i64 f.proto, .int .u32 f.src, .int .i64 f.sport, .int .u32 f.dst, .int .i64 f.dport]) 18 (by kernel_rfl) (run_ld (hC11.get 2 rfl) rfl) ?_
  refine WL.call rfl rfl rfl rfl rfl (by kernel_rfl) (CheckF_ct f w9) ?_
  rintro _ w18 ⟨rfl, hF17⟩
  refine ⟨_, rfl, ?_⟩
  have hC19 := hC11.call hF17
  refine WL.runs 1 [(13, errV 47 (if goodF f then 0 else 9))] (fun _ => by kernel_rfl) ?_
  refine WL.done rfl ?_
  refine QX.then_normal (hK16 _ _ ?_)
  refine WC.seq (fun K20 hK21 => ?_)
  refine WC.region ?_
  refine WL.runs 1 [(20, errV 47 (if goodF f then 0 else 9))] (fun _ => by kernel_rfl) ?_
  have hr22 : ∀ w_, Sem.run Try.prog (do eqGuard .neq 26 (Operand.tmp 20) (Operand.const (.nilIface)) (errV 47 (if goodF f then 0 else 9)) (.nilIface); binOp .neq 26 (errV 47 (if goodF f then 0 else 9)) (.nilIface)) w_ = .ok (.bool (!(goodF f))) w_ := fun w_ => (err_neq _ (if goodF f then 0 else 9) (goodF f) (by cases goodF f <;> rfl) _)
  refine WL.sem (do eqGuard .neq 26 (Operand.tmp 20) (Operand.const (.nilIface)) (errV 47 (if goodF f then 0 else 9)) (.nilIface); binOp .neq 26 (errV 47 (if goodF f then 0 else 9)) (.nilIface)) 21 (.bool (!(goodF f))) (by kernel_rfl) (hr22 _) ?_
  refine WL.done rfl ?_
  refine QX.then_normal (hK21 _ _ ?_)
  refine WC.test_at 21 (!(goodF f)) rfl (fun t23b => ?_) (fun t23b => ?_)
  · -- (!(goodF f)) = true: true
    have t23 : (goodF f) = false := by first | (simpa only [Bool.not_eq_true', Bool.not_eq_false'] using t23b) | simpa using t23b
    refine WC.cond_true rfl ?_
    refine WC.seq (fun K24 hK25 => ?_)
    refine WC.region ?_
    refine WL.runs 2 [(23, errV 47 (if goodF f then 0 else 9)), (22, .agg #[.int .i64 0, .int .u32 0, .int .i64 0, .int .u32 0, .int .i64 0, .int .u32 0, .int .i64 0, .bool false, .bool false, .int .i64 0])] (fun _ => by kernel_rfl) ?_
    refine WL.storeM (c' := #[.int .i64 0, .int .u32 0, .int .i64 0, .int .u32 0, .int .i64 0, .int .u32 0, .int .i64 0, .bool false, .bool false, .int .i64 0]) hC19 3 34 g8 0 (.agg #[.int .i64 0, .int .u32 0, .int .i64 0, .int .u32 0, .int .i64 0, .int .u32 0, .int .i64 0, .bool false, .bool false, .int .i64 0]) (by kernel_rfl) rfl (by kernel_rfl) (fun w26 hF28 hC29 => ?_)
    refine WL.runs 2 [(12, errV 47 (if goodF f then 0 else 9)), (11, .bool false)] (fun _ => by kernel_rfl) ?_
    refine WL.done rfl ?_
    refine QX.then_normal (hK25 _ _ ?_)
    refine WC.ret ?_
    refine QX.then_ret ?_
    refine (hret' _ _ (.tuple #[.agg #[.int .i64 0, .int .u32 0, .int .i64 0, .int .u32 0, .int .i64 0, .int .u32 0, .int .i64 0, .bool false, .bool false, .int .i64 0], .bool false, errV 47 (if goodF f then 0 else 9)]) (fun a ha => ?_) ?_).1
    · exact res_run ha ((ResR.cell rfl (run_ld (hC29.get 3 rfl) rfl) (ResR.tmp rfl (ResR.tmp rfl ResR.nil)))) rfl
    clear hN hret hret' hK25 hK21 hK16 hK14 hK2
    have hE_ : (if goodF f then (0 : Int) else 9) = 9 := by simp [t23]
    rw [hE_]
    exact ⟨T, zeroE, false, 9, rfl, hC29.fr, ⟨hpb, hC29.get 0 rfl, _, _, hC29.get 1 rfl, hm_⟩, .form t23⟩
  · -- (!(goodF f)) = true: false
    have t23 : (goodF f) = true := by first | (simpa only [Bool.not_eq_true', Bool.not_eq_false'] using t23b) | simpa using t23b
    refine WC.cond_false rfl ?_
    refine WC.skip ?_
    refine QX.then_normal (hK14 _ _ ?_)
    refine WC.seq (fun K30 hK31 => ?_)
    refine WC.seq (fun K32 hK33 => ?_)
    refine WC.region ?_
    refine WL.runs 1 [(24, .int .i64 now)] (fun _ => by kernel_rfl) ?_
    refine WL.call rfl rfl rfl rfl rfl (by kernel_rfl) (goodTime_ct now w18) ?_
    rintro _ w35 ⟨rfl, hF34⟩
    refine ⟨_, rfl, ?_⟩
    have hC36 := hC19.call hF34
    refine WL.runs 1 [(26, .bool (!(goodTime now)))] (fun _ => by kernel_rfl) ?_
    refine WL.done rfl ?_
    refine QX.then_normal (hK33 _ _ ?_)
    refine WC.test_at 26 (!(goodTime now)) rfl (fun t37b => ?_) (fun t37b => ?_)
    · -- (!(goodTime now)) = true: true
      have t37 : (goodTime now) = false := by first | (simpa only [Bool.not_eq_true', Bool.not_eq_false'] using t37b) | simpa using t37b
      refine WC.cond_true rfl ?_
      refine WC.seq (fun K38 hK39 => ?_)
      refine WC.region ?_
      refine WL.runs 2 [(28, .iface 47 (.int .i64 4)), (27, .agg #[.int .i64 0, .int .u32 0, .int .i64 0, .int .u32 0, .int .i64 0, .int .u32 0, .int .i64 0, .bool false, .bool false, .int .i64 0])] (fun _ => by kernel_rfl) ?_
      refine WL.storeM (c' := #[.int .i64 0, .int .u32 0, .int .i64 0, .int .u32 0, .int .i64 0, .int .u32 0, .int .i64 0, .bool false, .bool false, .int .i64 0]) hC36 3 34 g8 0 (.agg #[.int .i64 0, .int .u32 0, .int .i64 0, .int .u32 0, .int .i64 0, .int .u32 0, .int .i64 0, .bool false, .bool false, .int .i64 0]) (by kernel_rfl) rfl (by kernel_rfl) (fun w40 hF42 hC43 => ?_)
      refine WL.runs 2 [(12, .iface 47 (.int .i64 4)), (11, .bool false)] (fun _ => by kernel_rfl) ?_
      refine WL.done rfl ?_
      refine QX.then_normal (hK39 _ _ ?_)
      refine WC.ret ?_
      refine QX.then_ret ?_
      refine (hret' _ _ (.tuple #[.agg #[.int .i64 0, .int .u32 0, .int .i64 0, .int .u32 0, .int .i64 0, .int .u32 0, .int .i64 0, .bool false, .bool false, .int .i64 0], .bool false, .iface 47 (.int .i64 4)]) (fun a ha => ?_) ?_).1
      · exact res_run ha ((ResR.cell rfl (run_ld (hC43.get 3 rfl) rfl) (ResR.tmp rfl (ResR.tmp rfl ResR.nil)))) rfl
      clear hN hret hret' hK39 hK33 hK31 hK21 hK16 hK14 hK2
      exact ⟨T, zeroE, false, 4, rfl, hC43.fr, ⟨hpb, hC43.get 0 rfl, _, _, hC43.get 1 rfl, hm_⟩, .range t23 (by simpa using t37)⟩
    · -- (!(goodTime now)) = true: false
      have t37 : (goodTime now) = true := by first | (simpa only [Bool.not_eq_true', Bool.not_eq_false'] using t37b) | simpa using t37b
      refine WC.cond_false rfl ?_
      refine WC.skip ?_
      refine QX.then_normal (hK31 _ _ ?_)
      refine WC.seq (fun K44 hK45 => ?_)
      refine WC.seq (fun K46 hK47 => ?_)
      refine WC.region ?_
      refine WL.runs 2 [(30, .bool false), (29, .pointer (some ⟨p, 0, none⟩))] (fun _ => by kernel_rfl) ?_
      refine WL.done rfl ?_
      refine QX.then_normal (hK47 _ _ ?_)
      refine WC.cond_false rfl ?_
      refine WC.skip ?_
      refine QX.then_normal (hK45 _ _ ?_)
      refine WC.seq (fun K48 hK49 => ?_)
      refine WC.seq (fun K50 hK51 => ?_)
      refine WC.drawC hC36 [] (by kernel_rfl) (fun w52 hF53 hC54 hS55 => ?_)
      refine WD.pure (NoPanic.then (NoPanic.then hN)) 0 34 (.pointer (some ⟨p, 0, none⟩)) (by kernel_rfl) (fun _ => by kernel_rfl) hS55 ?_
      refine WD.pure (NoPanic.then (NoPanic.then hN)) 1 35 (.pointer (some ⟨p, 0, none⟩)) (by kernel_rfl) (fun _ => by kernel_rfl) hS55 ?_
      refine WD.pure (NoPanic.then (NoPanic.then hN)) 2 36 (.pointer (some ⟨p, 0, none⟩)) (by kernel_rfl) (fun _ => by kernel_rfl) hS55 ?_
      refine WD.load (NoPanic.then (NoPanic.then hN)) 3 71 (.pointer (some ⟨p, 0, none⟩)) (.map (some b)) 37 (by kernel_rfl) (by kernel_rfl) (fun _ hS_ => run_ld (Fr.has hS_ (hC54.get 0 rfl) (by simp)) rfl) hS55 ?_
      refine WD.load (NoPanic.then (NoPanic.then hN)) 4 32 (.pointer (some ⟨g3, 0, none⟩)) (.agg #[.int .i64 f.proto, .int .u32 f.src, .int .i64 f.sport, .int .u32 f.dst, .int .i64 f.dport]) 38 (by kernel_rfl) (by kernel_rfl) (fun _ hS_ => run_ld (Fr.has hS_ (hC54.get 2 rfl) (by simp)) rfl) hS55 ?_
      obtain ⟨xv56, hxv57⟩ : ∃ x_, (lookL T.m f).getD zeroE = x_ := ⟨_, rfl⟩
      obtain ⟨bv58, hbv59⟩ : ∃ b_, (lookL T.m f).isSome = b_ := ⟨_, rfl⟩
      refine WD.semP (NoPanic.then (NoPanic.then hN)) 5 (Instr.lookup 71 (.map (some b)) (.agg #[.int .i64 f.proto, .int .u32 f.src, .int .i64 f.sport, .int .u32 f.dst, .int .i64 f.dport]) true) 39 (.tuple #[.agg #[.int .i64 xv56.flow.proto, .int .u32 xv56.flow.src, .int .i64 xv56.flow.sport, .int .u32 xv56.flow.dst, .int .i64 xv56.flow.dport, .int .u32 xv56.dip, .int .i64 xv56.epoch, .bool xv56.trusted, .bool xv56.closing, .int .i64 xv56.last], .bool bv58]) (by kernel_rfl) (by kernel_rfl) (fun w_ hS_ => lookM_ok (P := Try.prog) (w := w_) (ek := encF) (ev := encE) (d := zeroE) (show Try.prog.underlying 71 = some (.map 32 34) from by kernel_rfl) keyF (fun _ => by kernel_rfl) (Fr.has hS_ (hC54.get 1 rfl) (by simp)) hm_ f hxv57 hbv59) hS55 ?_
      refine WD.pure (NoPanic.then (NoPanic.then hN)) 6 33 (.tuple #[.agg #[.int .i64 xv56.flow.proto, .int .u32 xv56.flow.src, .int .i64 xv56.flow.sport, .int .u32 xv56.flow.dst, .int .i64 xv56.flow.dport, .int .u32 xv56.dip, .int .i64 xv56.epoch, .bool xv56.trusted, .bool xv56.closing, .int .i64 xv56.last], .bool bv58]) (by kernel_rfl) (fun _ => by kernel_rfl) hS55 ?_
      refine WD.pure (NoPanic.then (NoPanic.then hN)) 7 40 (.agg #[.int .i64 xv56.flow.proto, .int .u32 xv56.flow.src, .int .i64 xv56.flow.sport, .int .u32 xv56.flow.dst, .int .i64 xv56.flow.dport, .int .u32 xv56.dip, .int .i64 xv56.epoch, .bool xv56.trusted, .bool xv56.closing, .int .i64 xv56.last]) (by kernel_rfl) (fun _ => by kernel_rfl) hS55 ?_
      refine WD.pure (NoPanic.then (NoPanic.then hN)) 8 41 (.bool bv58) (by kernel_rfl) (fun _ => by kernel_rfl) hS55 ?_
      refine WD.new 9 (fun b => .pointer (some ⟨b, 0, none⟩)) (.cells #[.int .i64 0, .int .u32 0, .int .i64 0, .int .u32 0, .int .i64 0, .int .u32 0, .int .i64 0, .bool false, .bool false, .int .i64 0] 34) (by kernel_rfl) rfl rfl rfl rfl rfl (fun _ => by kernel_rfl) (fun g60 w61 hb64 hl65 hF62 ho66 => ?_)
      have hC63 := hC54.callB hF62 hb64 ho66
      have hS67 := hS55.trans hF62 (by simp)
      refine ⟨hS67, ?_⟩
      obtain ⟨w68, hr69, hF70, hC71⟩ := sto_run (c' := #[.int .i64 xv56.flow.proto, .int .u32 xv56.flow.src, .int .i64 xv56.flow.sport, .int .u32 xv56.flow.dst, .int .i64 xv56.flow.dport, .int .u32 xv56.dip, .int .i64 xv56.epoch, .bool xv56.trusted, .bool xv56.closing, .int .i64 xv56.last]) Try.prog hC63 4 34 g60 0 (.agg #[.int .i64 xv56.flow.proto, .int .u32 xv56.flow.src, .int .i64 xv56.flow.sport, .int .u32 xv56.flow.dst, .int .i64 xv56.flow.dport, .int .u32 xv56.dip, .int .i64 xv56.epoch, .bool xv56.trusted, .bool xv56.closing, .int .i64 xv56.last]) rfl (by kernel_rfl)
      have hS72 := hS67.trans hF70 (by first | (simp; done) | (simp [*]; done) | (have q_ := hS67.size; simp; omega))
      refine WD.semU 10 (Instr.storeAt 34 (.pointer (some ⟨g60, 0, none⟩)) (.agg #[.int .i64 xv56.flow.proto, .int .u32 xv56.flow.src, .int .i64 xv56.flow.sport, .int .u32 xv56.flow.dst, .int .i64 xv56.flow.dport, .int .u32 xv56.dip, .int .i64 xv56.epoch, .bool xv56.trusted, .bool xv56.closing, .int .i64 xv56.last])) (by kernel_rfl) (by kernel_rfl) hr69 hS72 ?_
      refine WD.pure (NoPanic.then (NoPanic.then hN)) 11 15 (.bool bv58) (by kernel_rfl) (fun _ => by kernel_rfl) hS72 ?_
      refine WD.done (by kernel_rfl) ?_
      refine QX.then_normal (hK51 _ _ ?_)
      refine WC.seq (fun K73 hK74 => ?_)
      refine WC.region ?_
      refine WL.runs 1 [(42, .bool bv58)] (fun _ => by kernel_rfl) ?_
      refine WL.done rfl ?_
      refine QX.then_normal (hK74 _ _ ?_)
      refine WC.test_at 42 (bv58) rfl (fun t75b => ?_) (fun t75b => ?_)
      · -- bv58 = true: true
        refine WC.cond_true rfl ?_
        refine WC.seq (fun K76 hK77 => ?_)
        refine WC.region ?_
        refine WL.runs 4 [(46, .pointer (some ⟨g60, 5, none⟩)), (45, .int .i64 now), (44, .int .i64 ep), (43, .int .u32 dip)] (fun _ => by kernel_rfl) ?_
        refine WL.storeM (c' := #[.int .i64 xv56.flow.proto, .int .u32 xv56.flow.src, .int .i64 xv56.flow.sport, .int .u32 xv56.flow.dst, .int .i64 xv56.flow.dport, .int .u32 dip, .int .i64 xv56.epoch, .bool xv56.trusted, .bool xv56.closing, .int .i64 xv56.last]) hC71 4 30 g60 5 (.int .u32 dip) (by kernel_rfl) rfl (by kernel_rfl) (fun w78 hF80 hC81 => ?_)
        refine WL.runs 1 [(47, .pointer (some ⟨g60, 6, none⟩))] (fun _ => by kernel_rfl) ?_
        refine WL.storeM (c' := #[.int .i64 xv56.flow.proto, .int .u32 xv56.flow.src, .int .i64 xv56.flow.sport, .int .u32 xv56.flow.dst, .int .i64 xv56.flow.dport, .int .u32 dip, .int .i64 ep, .bool xv56.trusted, .bool xv56.closing, .int .i64 xv56.last]) hC81 4 3 g60 6 (.int .i64 ep) (by kernel_rfl) rfl (by kernel_rfl) (fun w82 hF84 hC85 => ?_)
        refine WL.runs 1 [(48, .pointer (some ⟨g60, 9, none⟩))] (fun _ => by kernel_rfl) ?_
        refine WL.storeM (c' := #[.int .i64 xv56.flow.proto, .int .u32 xv56.flow.src, .int .i64 xv56.flow.sport, .int .u32 xv56.flow.dst, .int .i64 xv56.flow.dport, .int .u32 dip, .int .i64 ep, .bool xv56.trusted, .bool xv56.closing, .int .i64 now]) hC85 4 3 g60 9 (.int .i64 now) (by kernel_rfl) rfl (by kernel_rfl) (fun w86 hF88 hC89 => ?_)
        refine WL.runs 1 [(49, .pointer (some ⟨g60, 8, none⟩))] (fun _ => by kernel_rfl) ?_
        refine WL.storeM (c' := #[.int .i64 xv56.flow.proto, .int .u32 xv56.flow.src, .int .i64 xv56.flow.sport, .int .u32 xv56.flow.dst, .int .i64 xv56.flow.dport, .int .u32 dip, .int .i64 ep, .bool xv56.trusted, .bool false, .int .i64 now]) hC89 4 4 g60 8 (.bool false) (by kernel_rfl) rfl (by kernel_rfl) (fun w90 hF92 hC93 => ?_)
        refine WL.done rfl ?_
        refine QX.then_normal (hK77 _ _ ?_)
        refine WC.seq (fun K94 hK95 => ?_)
        refine WC.drawC hC93 [b] (by kernel_rfl) (fun w96 hF97 hC98 hS99 => ?_)
        refine WD.pure (NoPanic.then (NoPanic.then hN)) 0 50 (.pointer (some ⟨p, 0, none⟩)) (by kernel_rfl) (fun _ => by kernel_rfl) hS99 ?_
        refine WD.pure (NoPanic.then (NoPanic.then hN)) 1 51 (.pointer (some ⟨p, 0, none⟩)) (by kernel_rfl) (fun _ => by kernel_rfl) hS99 ?_
        refine WD.pure (NoPanic.then (NoPanic.then hN)) 2 52 (.pointer (some ⟨p, 0, none⟩)) (by kernel_rfl) (fun _ => by kernel_rfl) hS99 ?_
        refine WD.load (NoPanic.then (NoPanic.then hN)) 3 71 (.pointer (some ⟨p, 0, none⟩)) (.map (some b)) 53 (by kernel_rfl) (by kernel_rfl) (fun _ hS_ => run_ld (Fr.has hS_ (hC98.get 0 rfl) (by simpa using hC98.ne 0 1 rfl rfl (by decide))) rfl) hS99 ?_
        refine WD.load (NoPanic.then (NoPanic.then hN)) 4 32 (.pointer (some ⟨g3, 0, none⟩)) (.agg #[.int .i64 f.proto, .int .u32 f.src, .int .i64 f.sport, .int .u32 f.dst, .int .i64 f.dport]) 54 (by kernel_rfl) (by kernel_rfl) (fun _ hS_ => run_ld (Fr.has hS_ (hC98.get 2 rfl) (by simpa using hC98.ne 2 1 rfl rfl (by decide))) rfl) hS99 ?_
        refine WD.sem 5 (Instr.loadAt 34 (.pointer (some ⟨g60, 0, none⟩))) 55 (.agg #[.int .i64 xv56.flow.proto, .int .u32 xv56.flow.src, .int .i64 xv56.flow.sport, .int .u32 xv56.flow.dst, .int .i64 xv56.flow.dport, .int .u32 dip, .int .i64 ep, .bool xv56.trusted, .bool false, .int .i64 now]) (by kernel_rfl) (by kernel_rfl) (run_ld (hC98.get 4 rfl) rfl) hS99 ?_
        obtain ⟨w100, es101, cl102, hr103, hF104, hC105, hm106⟩ := putM_run (P := Try.prog) (ek := encF) (ev := encE) hC98 1 rfl (show Try.prog.underlying 71 = some (.map 32 34) from by kernel_rfl) keyF hm_ f (⟨xv56.flow, dip, ep, xv56.trusted, false, now⟩ : Ent)
        have hS107 := hS99.trans hF104 (by simp)
        refine WD.semU 6 (Instr.mapUpdate 71 (.map (some b)) (.agg #[.int .i64 f.proto, .int .u32 f.src, .int .i64 f.sport, .int .u32 f.dst, .int .i64 f.dport]) (.agg #[.int .i64 xv56.flow.proto, .int .u32 xv56.flow.src, .int .i64 xv56.flow.sport, .int .u32 xv56.flow.dst, .int .i64 xv56.flow.dport, .int .u32 dip, .int .i64 ep, .bool xv56.trusted, .bool false, .int .i64 now])) (by kernel_rfl) (by kernel_rfl) hr103 hS107 ?_
        refine WD.done (by kernel_rfl) ?_
        refine QX.then_normal (hK95 _ _ ?_)
        refine WC.seq (fun K108 hK109 => ?_)
        refine WC.region ?_
        refine WL.runs 1 [(56, .agg #[.int .i64 0, .int .u32 0, .int .i64 0, .int .u32 0, .int .i64 0, .int .u32 0, .int .i64 0, .bool false, .bool false, .int .i64 0])] (fun _ => by kernel_rfl) ?_
        refine WL.storeM (c' := #[.int .i64 0, .int .u32 0, .int .i64 0, .int .u32 0, .int .i64 0, .int .u32 0, .int .i64 0, .bool false, .bool false, .int .i64 0]) hC105 3 34 g8 0 (.agg #[.int .i64 0, .int .u32 0, .int .i64 0, .int .u32 0, .int .i64 0, .int .u32 0, .int .i64 0, .bool false, .bool false, .int .i64 0]) (by kernel_rfl) rfl (by kernel_rfl) (fun w110 hF112 hC113 => ?_)
        refine WL.runs 2 [(12, .nilIface), (11, .bool false)] (fun _ => by kernel_rfl) ?_
        refine WL.done rfl ?_
        refine QX.then_normal (hK109 _ _ ?_)
        refine WC.ret ?_
        refine QX.then_ret ?_
        refine (hret' _ _ (.tuple #[.agg #[.int .i64 0, .int .u32 0, .int .i64 0, .int .u32 0, .int .i64 0, .int .u32 0, .int .i64 0, .bool false, .bool false, .int .i64 0], .bool false, .nilIface]) (fun a ha => ?_) ?_).1
        · exact res_run ha ((ResR.cell rfl (run_ld (hC113.get 3 rfl) rfl) (ResR.tmp rfl (ResR.tmp rfl ResR.nil)))) rfl
        clear hN hret hret' hK109 hK95 hK77 hK74 hK51 hK49 hK47 hK45 hK33 hK31 hK21 hK16 hK14 hK2
        exact ⟨(⟨(putL T.m f (⟨xv56.flow, dip, ep, xv56.trusted, false, now⟩ : Ent)), T.th, T.tm, T.uh, T.um⟩ : Tb), zeroE, false, 0, rfl, hC113.fr, ⟨hpb, hC113.get 0 rfl, _, _, hC113.get 1 rfl, hm106⟩, .old xv56 t23 t37 (look_some hxv57 (by rw [hbv59]; exact t75b))⟩
      · -- bv58 = true: false
        refine WC.cond_false rfl ?_
        refine WC.skip ?_
        refine QX.then_normal (hK49 _ _ ?_)
        refine WC.seq (fun K114 hK115 => ?_)
        refine WC.seq (fun K116 hK117 => ?_)
        refine WC.region ?_
        refine WL.runs 4 [(60, .pointer (some ⟨p, 4, none⟩)), (59, .pointer (some ⟨p, 3, none⟩)), (58, .pointer (some ⟨p, 0, none⟩)), (57, .pointer (some ⟨p, 0, none⟩))] (fun _ => by kernel_rfl) ?_
        refine WL.load 3 (.pointer (some ⟨p, 4, none⟩)) (.int .i64 T.um) 61 (by kernel_rfl) (run_ld (hC71.get 0 rfl) rfl) ?_
        refine WL.runs 1 [(62, .bool (T.um == 0))] (fun _ => by kernel_rfl) ?_
        refine WL.done rfl ?_
        refine QX.then_normal (hK117 _ _ ?_)
        refine WC.test_at 62 (T.um == 0) rfl (fun t118b => ?_) (fun t118b => ?_)
        · -- T.um = 0: true
          have t118 : T.um = 0 := by simpa using t118b
          refine WC.cond_true rfl ?_
          refine WC.seq (fun K119 hK120 => ?_)
          refine WC.region ?_
          refine WL.runs 2 [(64, .iface 47 (.int .i64 5)), (63, .agg #[.int .i64 0, .int .u32 0, .int .i64 0, .int .u32 0, .int .i64 0, .int .u32 0, .int .i64 0, .bool false, .bool false, .int .i64 0])] (fun _ => by kernel_rfl) ?_
          refine WL.storeM (c' := #[.int .i64 0, .int .u32 0, .int .i64 0, .int .u32 0, .int .i64 0, .int .u32 0, .int .i64 0, .bool false, .bool false, .int .i64 0]) hC71 3 34 g8 0 (.agg #[.int .i64 0, .int .u32 0, .int .i64 0, .int .u32 0, .int .i64 0, .int .u32 0, .int .i64 0, .bool false, .bool false, .int .i64 0]) (by kernel_rfl) rfl (by kernel_rfl) (fun w121 hF123 hC124 => ?_)
          refine WL.runs 2 [(12, .iface 47 (.int .i64 5)), (11, .bool false)] (fun _ => by kernel_rfl) ?_
          refine WL.done rfl ?_
          refine QX.then_normal (hK120 _ _ ?_)
          refine WC.ret ?_
          refine QX.then_ret ?_
          refine (hret' _ _ (.tuple #[.agg #[.int .i64 0, .int .u32 0, .int .i64 0, .int .u32 0, .int .i64 0, .int .u32 0, .int .i64 0, .bool false, .bool false, .int .i64 0], .bool false, .iface 47 (.int .i64 5)]) (fun a ha => ?_) ?_).1
          · exact res_run ha ((ResR.cell rfl (run_ld (hC124.get 3 rfl) rfl) (ResR.tmp rfl (ResR.tmp rfl ResR.nil)))) rfl
          clear hN hret hret' hK120 hK117 hK115 hK74 hK51 hK49 hK47 hK45 hK33 hK31 hK21 hK16 hK14 hK2
          exact ⟨T, zeroE, false, 5, rfl, hC124.fr, ⟨hpb, hC124.get 0 rfl, _, _, hC124.get 1 rfl, hm_⟩, .empty t23 t37 (look_none hxv57 (by rw [hbv59]; exact t75b)).1 (by simpa using t118b)⟩
        · -- T.um = 0: false
          have t118 : ¬ (T.um = 0) := by simpa using t118b
          refine WC.cond_false rfl ?_
          refine WC.skip ?_
          refine QX.then_normal (hK115 _ _ ?_)
          refine WC.seq (fun K125 hK126 => ?_)
          refine WC.region ?_
          refine WL.newM hC71 (fun b => .pointer (some ⟨b, 0, none⟩)) (.cells #[.int .i64 0, .int .u32 0, .int .i64 0, .int .u32 0, .int .i64 0, .int .u32 0, .int .i64 0, .bool false, .bool false, .int .i64 0] 34) 16 (fun _ => by kernel_rfl) (fun g127 w128 hb131 hF129 hC130 => ?_)
          refine WL.done rfl ?_
          refine QX.then_normal (hK126 _ _ ?_)
          refine WC.seq (fun K132 hK133 => ?_)
          refine WC.region ?_
          refine WL.runs 3 [(67, .pointer (some ⟨p, 3, none⟩)), (66, .pointer (some ⟨p, 0, none⟩)), (65, .pointer (some ⟨p, 0, none⟩))] (fun _ => by kernel_rfl) ?_
          refine WL.call rfl rfl rfl rfl rfl (by kernel_rfl) (room_ct p 3 T.uh T.um w128 (by rw [cell_blk (hC130.get 0 rfl)]; rfl) (by rw [cell_blk (hC130.get 0 rfl)]; rfl)) ?_
          rintro _ w135 ⟨rfl, hF134⟩
          refine ⟨_, rfl, ?_⟩
          have hC136 := hC130.call hF134
          refine WL.runs 2 [(17, .bool (!(decide (T.uh < T.um)))), (69, .bool (!(decide (T.uh < T.um))))] (fun _ => by kernel_rfl) ?_
          refine WL.done rfl ?_
          refine QX.then_normal (hK133 _ _ ?_)
          refine WC.seq (fun K137 hK138 => ?_)
          refine WC.seq (fun K139 hK140 => ?_)
          refine WC.region ?_
          refine WL.runs 1 [(70, .bool (!(decide (T.uh < T.um))))] (fun _ => by kernel_rfl) ?_
          refine WL.done rfl ?_
          refine QX.then_normal (hK140 _ _ ?_)
          refine WC.test_at 70 (!(decide (T.uh < T.um))) rfl (fun t141b => ?_) (fun t141b => ?_)
          · -- (!(decide (T.uh < T.um))) = true: true
            have t141 : (decide (T.uh < T.um)) = false := by first | (simpa only [Bool.not_eq_true', Bool.not_eq_false'] using t141b) | simpa using t141b
            refine WC.cond_true rfl ?_
            refine WC.seq (fun K142 hK143 => ?_)
            refine WC.region ?_
            refine WL.runs 1 [(71, .pointer (some ⟨p, 0, none⟩))] (fun _ => by kernel_rfl) ?_
            refine WL.call rfl rfl rfl rfl rfl (by kernel_rfl) (oldest_ct p b (⟨T.m, T.th, T.tm, T.uh, T.um⟩ : Tb) w135 (⟨hpb, hC136.get 0 rfl, es, cl, hC136.get 1 rfl, hm_⟩ : tbAt w135 p b (⟨T.m, T.th, T.tm, T.uh, T.um⟩ : Tb))) ?_
            rintro _ w148 ⟨fd144, bst145, rfl, hF147, hbest146⟩
            refine ⟨_, rfl, ?_⟩
            have hC149 := hC136.call hF147
            refine WL.storeM (c' := #[.int .i64 bst145.flow.proto, .int .u32 bst145.flow.src, .int .i64 bst145.flow.sport, .int .u32 bst145.flow.dst, .int .i64 bst145.flow.dport, .int .u32 bst145.dip, .int .i64 bst145.epoch, .bool bst145.trusted, .bool bst145.closing, .int .i64 bst145.last]) hC149 5 34 g127 0 (.agg #[.int .i64 bst145.flow.proto, .int .u32 bst145.flow.src, .int .i64 bst145.flow.sport, .int .u32 bst145.flow.dst, .int .i64 bst145.flow.dport, .int .u32 bst145.dip, .int .i64 bst145.epoch, .bool bst145.trusted, .bool bst145.closing, .int .i64 bst145.last]) (by kernel_rfl) rfl (by kernel_rfl) (fun w150 hF152 hC153 => ?_)
            refine WL.done rfl ?_
            refine QX.then_normal (hK143 _ _ ?_)
            refine WC.region ?_
            refine WL.runs 2 [(74, .pointer (some ⟨g127, 0, none⟩)), (73, .pointer (some ⟨p, 0, none⟩))] (fun _ => by kernel_rfl) ?_
            refine WL.load 32 (.pointer (some ⟨g127, 0, none⟩)) (.agg #[.int .i64 bst145.flow.proto, .int .u32 bst145.flow.src, .int .i64 bst145.flow.sport, .int .u32 bst145.flow.dst, .int .i64 bst145.flow.dport]) 75 (by kernel_rfl) (run_ld (hC153.get 5 rfl) rfl) ?_
            refine WL.newM hC153 (fun b => .slice (some ⟨b, 0, none⟩) 1 1) (.cells #[.int .i64 bst145.flow.proto, .int .u32 bst145.flow.src, .int .i64 bst145.flow.sport, .int .u32 bst145.flow.dst, .int .i64 bst145.flow.dport] 32) 76 (fun _ => by kernel_rfl) (fun g154 w155 hb158 hF156 hC157 => ?_)
            refine WL.call rfl rfl rfl rfl rfl (by kernel_rfl) (Remove_ct p b (⟨T.m, T.th, T.tm, T.uh, T.um⟩ : Tb) (some ⟨g154, 0, none⟩) 1 [bst145.flow] w155 (⟨hpb, hC157.get 0 rfl, es, cl, hC157.get 1 rfl, hm_⟩ : tbAt w155 p b (⟨T.m, T.th, T.tm, T.uh, T.um⟩ : Tb)) (by first | exact hth | (dsimp only; omega)) (by first | exact huh | (dsimp only; omega)) (Rd.blk (xs := [bst145.flow]) (hC157.get 6 rfl) cellsF_len rfl) (fun g_ o_ h_ => by cases h_; exact ⟨hC157.ne 6 0 rfl rfl (by decide), hC157.ne 6 1 rfl rfl (by decide)⟩) (by simp)) ?_
            rintro _ w160 ⟨rfl, hF159, _, hp164, es162, cl163, hb165, hm166⟩
            have hC161 := hC157.call2 0 1 rfl rfl hF159 hp164 hb165
            refine ⟨_, rfl, ?_⟩
            have hru_ := rem1_um (⟨T.m, T.th, T.tm, T.uh, T.um⟩ : Tb) bst145.flow
            dsimp only at hru_
            refine WL.done rfl ?_
            refine QX.then_normal (hK138 _ _ ?_)
            refine WC.seq (fun K167 hK168 => ?_)
            refine WC.drawC hC161 [b] (by kernel_rfl) (fun w169 hF170 hC171 hS172 => ?_)
            refine WD.pure (NoPanic.then hN) 0 78 (.pointer (some ⟨p, 0, none⟩)) (by kernel_rfl) (fun _ => by kernel_rfl) hS172 ?_
            refine WD.pure (NoPanic.then hN) 1 79 (.pointer (some ⟨p, 0, none⟩)) (by kernel_rfl) (fun _ => by kernel_rfl) hS172 ?_
            refine WD.pure (NoPanic.then hN) 2 80 (.pointer (some ⟨p, 0, none⟩)) (by kernel_rfl) (fun _ => by kernel_rfl) hS172 ?_
            refine WD.pure (NoPanic.then hN) 6 84 (.int .u32 dip) (by kernel_rfl) (fun _ => by kernel_rfl) hS172 ?_
            refine WD.pure (NoPanic.then hN) 7 85 (.int .i64 ep) (by kernel_rfl) (fun _ => by kernel_rfl) hS172 ?_
            refine WD.pure (NoPanic.then hN) 8 86 (.int .i64 now) (by kernel_rfl) (fun _ => by kernel_rfl) hS172 ?_
            refine WD.load (NoPanic.then hN) 3 71 (.pointer (some ⟨p, 0, none⟩)) (.map (some b)) 81 (by kernel_rfl) (by kernel_rfl) (fun _ hS_ => run_ld (Fr.has hS_ (hC171.get 0 rfl) (by simpa using hC171.ne 0 1 rfl rfl (by decide))) rfl) hS172 ?_
            refine WD.load (NoPanic.then hN) 4 32 (.pointer (some ⟨g3, 0, none⟩)) (.agg #[.int .i64 f.proto, .int .u32 f.src, .int .i64 f.sport, .int .u32 f.dst, .int .i64 f.dport]) 82 (by kernel_rfl) (by kernel_rfl) (fun _ hS_ => run_ld (Fr.has hS_ (hC171.get 2 rfl) (by simpa using hC171.ne 2 1 rfl rfl (by decide))) rfl) hS172 ?_
            refine WD.sem 5 (Instr.loadAt 32 (.pointer (some ⟨g3, 0, none⟩))) 83 (.agg #[.int .i64 f.proto, .int .u32 f.src, .int .i64 f.sport, .int .u32 f.dst, .int .i64 f.dport]) (by kernel_rfl) (by kernel_rfl) (run_ld (hC171.get 2 rfl) rfl) hS172 ?_
            refine WD.pure (NoPanic.then hN) 9 87 (.agg #[.int .i64 f.proto, .int .u32 f.src, .int .i64 f.sport, .int .u32 f.dst, .int .i64 f.dport, .int .u32 dip, .int .i64 ep, .bool false, .bool false, .int .i64 now]) (by kernel_rfl) (fun _ => by kernel_rfl) hS172 ?_
            obtain ⟨w173, es174, cl175, hr176, hF177, hC178, hm179⟩ := putM_run (P := Try.prog) (ek := encF) (ev := encE) hC171 1 rfl (show Try.prog.underlying 71 = some (.map 32 34) from by kernel_rfl) keyF hm166 f (⟨f, dip, ep, false, false, now⟩ : Ent)
            have hS180 := hS172.trans hF177 (by simp)
            refine WD.semU 10 (Instr.mapUpdate 71 (.map (some b)) (.agg #[.int .i64 f.proto, .int .u32 f.src, .int .i64 f.sport, .int .u32 f.dst, .int .i64 f.dport]) (.agg #[.int .i64 f.proto, .int .u32 f.src, .int .i64 f.sport, .int .u32 f.dst, .int .i64 f.dport, .int .u32 dip, .int .i64 ep, .bool false, .bool false, .int .i64 now])) (by kernel_rfl) (by kernel_rfl) hr176 hS180 ?_
            refine WD.done (by kernel_rfl) ?_
            refine QX.then_normal (hK168 _ _ ?_)
            refine WC.seq (fun K181 hK182 => ?_)
            refine WC.region ?_
            refine WL.runs 4 [(91, .pointer (some ⟨p, 3, none⟩)), (90, .pointer (some ⟨p, 3, none⟩)), (89, .pointer (some ⟨p, 0, none⟩)), (88, .pointer (some ⟨p, 0, none⟩))] (fun _ => by kernel_rfl) ?_
            refine WL.load 3 (.pointer (some ⟨p, 3, none⟩)) (.int .i64 ((rem1 (⟨T.m, T.th, T.tm, T.uh, T.um⟩ : Tb) bst145.flow).uh)) 92 (by kernel_rfl) (run_ld (hC178.get 0 rfl) rfl) ?_
            refine WL.runs 1 [(93, .int .i64 (IntKind.i64.wrap (((rem1 (⟨T.m, T.th, T.tm, T.uh, T.um⟩ : Tb) bst145.flow).uh) + 1)))] (fun _ => by kernel_rfl) ?_
            refine WL.recast (show (.int .i64 (IntKind.i64.wrap (((rem1 (⟨T.m, T.th, T.tm, T.uh, T.um⟩ : Tb) bst145.flow).uh) + 1)) : Value) = .int .i64 (((rem1 (⟨T.m, T.th, T.tm, T.uh, T.um⟩ : Tb) bst145.flow).uh) + 1) from by rw [wrap_in_i64 (((rem1 (⟨T.m, T.th, T.tm, T.uh, T.um⟩ : Tb) bst145.flow).uh) + 1) (by omega) (by omega)]) ?_
            refine WL.runs 3 [(96, .pointer (some ⟨p, 3, none⟩)), (95, .pointer (some ⟨p, 3, none⟩)), (94, .pointer (some ⟨p, 0, none⟩))] (fun _ => by kernel_rfl) ?_
            refine WL.storeM (c' := #[.map (some b), .int .i64 ((rem1 (⟨T.m, T.th, T.tm, T.uh, T.um⟩ : Tb) bst145.flow).th), .int .i64 ((rem1 (⟨T.m, T.th, T.tm, T.uh, T.um⟩ : Tb) bst145.flow).tm), .int .i64 (((rem1 (⟨T.m, T.th, T.tm, T.uh, T.um⟩ : Tb) bst145.flow).uh) + 1), .int .i64 ((rem1 (⟨T.m, T.th, T.tm, T.uh, T.um⟩ : Tb) bst145.flow).um)]) hC178 0 3 p 3 (.int .i64 (((rem1 (⟨T.m, T.th, T.tm, T.uh, T.um⟩ : Tb) bst145.flow).uh) + 1)) (by kernel_rfl) rfl (by kernel_rfl) (fun w183 hF185 hC186 => ?_)
            refine WL.done rfl ?_
            refine QX.then_normal (hK182 _ _ ?_)
            refine WC.seq (fun K187 hK188 => ?_)
            refine WC.region ?_
            refine WL.load 34 (.pointer (some ⟨g127, 0, none⟩)) (.agg #[.int .i64 bst145.flow.proto, .int .u32 bst145.flow.src, .int .i64 bst145.flow.sport, .int .u32 bst145.flow.dst, .int .i64 bst145.flow.dport, .int .u32 bst145.dip, .int .i64 bst145.epoch, .bool bst145.trusted, .bool bst145.closing, .int .i64 bst145.last]) 97 (by kernel_rfl) (run_ld (hC186.get 5 rfl) rfl) ?_
            refine WL.runs 1 [(98, .bool (!(decide (T.uh < T.um))))] (fun _ => by kernel_rfl) ?_
            refine WL.storeM (c' := #[.int .i64 bst145.flow.proto, .int .u32 bst145.flow.src, .int .i64 bst145.flow.sport, .int .u32 bst145.flow.dst, .int .i64 bst145.flow.dport, .int .u32 bst145.dip, .int .i64 bst145.epoch, .bool bst145.trusted, .bool bst145.closing, .int .i64 bst145.last]) hC186 3 34 g8 0 (.agg #[.int .i64 bst145.flow.proto, .int .u32 bst145.flow.src, .int .i64 bst145.flow.sport, .int .u32 bst145.flow.dst, .int .i64 bst145.flow.dport, .int .u32 bst145.dip, .int .i64 bst145.epoch, .bool bst145.trusted, .bool bst145.closing, .int .i64 bst145.last]) (by kernel_rfl) rfl (by kernel_rfl) (fun w189 hF191 hC192 => ?_)
            refine WL.runs 2 [(12, .nilIface), (11, .bool (!(decide (T.uh < T.um))))] (fun _ => by kernel_rfl) ?_
            refine WL.done rfl ?_
            refine QX.then_normal (hK188 _ _ ?_)
            refine WC.ret ?_
            refine (hret' _ _ (.tuple #[.agg #[.int .i64 bst145.flow.proto, .int .u32 bst145.flow.src, .int .i64 bst145.flow.sport, .int .u32 bst145.flow.dst, .int .i64 bst145.flow.dport, .int .u32 bst145.dip, .int .i64 bst145.epoch, .bool bst145.trusted, .bool bst145.closing, .int .i64 bst145.last], .bool (!(decide (T.uh < T.um))), .nilIface]) (fun a ha => ?_) ?_).1
            · exact res_run ha ((ResR.cell rfl (run_ld (hC192.get 3 rfl) rfl) (ResR.tmp rfl (ResR.tmp rfl ResR.nil)))) rfl
            clear hN hret hret' hK188 hK182 hK168 hK143 hK140 hK138 hK133 hK126 hK117 hK115 hK74 hK51 hK49 hK47 hK45 hK33 hK31 hK21 hK16 hK14 hK2
            have hfl_ : (!decide (T.uh < T.um)) = true := t141b
            rw [hfl_]
            exact ⟨(⟨(putL ((rem1 (⟨T.m, T.th, T.tm, T.uh, T.um⟩ : Tb) bst145.flow).m) f (⟨f, dip, ep, false, false, now⟩ : Ent)), (rem1 (⟨T.m, T.th, T.tm, T.uh, T.um⟩ : Tb) bst145.flow).th, (rem1 (⟨T.m, T.th, T.tm, T.uh, T.um⟩ : Tb) bst145.flow).tm, ((rem1 (⟨T.m, T.th, T.tm, T.uh, T.um⟩ : Tb) bst145.flow).uh) + 1, (rem1 (⟨T.m, T.th, T.tm, T.uh, T.um⟩ : Tb) bst145.flow).um⟩ : Tb), _, true, 0, rfl, hC192.fr, ⟨hpb, hC192.get 0 rfl, _, _, hC192.get 1 rfl, hm179⟩, .full _ _ t23 t37 (look_none hxv57 (by rw [hbv59]; exact t75b)).1 (by simpa using t118b) (by simpa using t141b) hbest146⟩
          · -- (!(decide (T.uh < T.um))) = true: false
            have t141 : (decide (T.uh < T.um)) = true := by first | (simpa only [Bool.not_eq_true', Bool.not_eq_false'] using t141b) | simpa using t141b
            refine WC.cond_false rfl ?_
            refine WC.skip ?_
            refine QX.then_normal (hK138 _ _ ?_)
            refine WC.seq (fun K193 hK194 => ?_)
            refine WC.drawC hC136 [b] (by kernel_rfl) (fun w195 hF196 hC197 hS198 => ?_)
            refine WD.pure (NoPanic.then hN) 0 78 (.pointer (some ⟨p, 0, none⟩)) (by kernel_rfl) (fun _ => by kernel_rfl) hS198 ?_
            refine WD.pure (NoPanic.then hN) 1 79 (.pointer (some ⟨p, 0, none⟩)) (by kernel_rfl) (fun _ => by kernel_rfl) hS198 ?_
            refine WD.pure (NoPanic.then hN) 2 80 (.pointer (some ⟨p, 0, none⟩)) (by kernel_rfl) (fun _ => by kernel_rfl) hS198 ?_
            refine WD.pure (NoPanic.then hN) 6 84 (.int .u32 dip) (by kernel_rfl) (fun _ => by kernel_rfl) hS198 ?_
            refine WD.pure (NoPanic.then hN) 7 85 (.int .i64 ep) (by kernel_rfl) (fun _ => by kernel_rfl) hS198 ?_
            refine WD.pure (NoPanic.then hN) 8 86 (.int .i64 now) (by kernel_rfl) (fun _ => by kernel_rfl) hS198 ?_
            refine WD.load (NoPanic.then hN) 3 71 (.pointer (some ⟨p, 0, none⟩)) (.map (some b)) 81 (by kernel_rfl) (by kernel_rfl) (fun _ hS_ => run_ld (Fr.has hS_ (hC197.get 0 rfl) (by simpa using hC197.ne 0 1 rfl rfl (by decide))) rfl) hS198 ?_
            refine WD.load (NoPanic.then hN) 4 32 (.pointer (some ⟨g3, 0, none⟩)) (.agg #[.int .i64 f.proto, .int .u32 f.src, .int .i64 f.sport, .int .u32 f.dst, .int .i64 f.dport]) 82 (by kernel_rfl) (by kernel_rfl) (fun _ hS_ => run_ld (Fr.has hS_ (hC197.get 2 rfl) (by simpa using hC197.ne 2 1 rfl rfl (by decide))) rfl) hS198 ?_
            refine WD.sem 5 (Instr.loadAt 32 (.pointer (some ⟨g3, 0, none⟩))) 83 (.agg #[.int .i64 f.proto, .int .u32 f.src, .int .i64 f.sport, .int .u32 f.dst, .int .i64 f.dport]) (by kernel_rfl) (by kernel_rfl) (run_ld (hC197.get 2 rfl) rfl) hS198 ?_
            refine WD.pure (NoPanic.then hN) 9 87 (.agg #[.int .i64 f.proto, .int .u32 f.src, .int .i64 f.sport, .int .u32 f.dst, .int .i64 f.dport, .int .u32 dip, .int .i64 ep, .bool false, .bool false, .int .i64 now]) (by kernel_rfl) (fun _ => by kernel_rfl) hS198 ?_
            obtain ⟨w199, es200, cl201, hr202, hF203, hC204, hm205⟩ := putM_run (P := Try.prog) (ek := encF) (ev := encE) hC197 1 rfl (show Try.prog.underlying 71 = some (.map 32 34) from by kernel_rfl) keyF hm_ f (⟨f, dip, ep, false, false, now⟩ : Ent)
            have hS206 := hS198.trans hF203 (by simp)
            refine WD.semU 10 (Instr.mapUpdate 71 (.map (some b)) (.agg #[.int .i64 f.proto, .int .u32 f.src, .int .i64 f.sport, .int .u32 f.dst, .int .i64 f.dport]) (.agg #[.int .i64 f.proto, .int .u32 f.src, .int .i64 f.sport, .int .u32 f.dst, .int .i64 f.dport, .int .u32 dip, .int .i64 ep, .bool false, .bool false, .int .i64 now])) (by kernel_rfl) (by kernel_rfl) hr202 hS206 ?_
            refine WD.done (by kernel_rfl) ?_
            refine QX.then_normal (hK194 _ _ ?_)
            refine WC.seq (fun K207 hK208 => ?_)
            refine WC.region ?_
            refine WL.runs 4 [(91, .pointer (some ⟨p, 3, none⟩)), (90, .pointer (some ⟨p, 3, none⟩)), (89, .pointer (some ⟨p, 0, none⟩)), (88, .pointer (some ⟨p, 0, none⟩))] (fun _ => by kernel_rfl) ?_
            refine WL.load 3 (.pointer (some ⟨p, 3, none⟩)) (.int .i64 T.uh) 92 (by kernel_rfl) (run_ld (hC204.get 0 rfl) rfl) ?_
            refine WL.runs 1 [(93, .int .i64 (IntKind.i64.wrap (T.uh + 1)))] (fun _ => by kernel_rfl) ?_
            refine WL.recast (show (.int .i64 (IntKind.i64.wrap (T.uh + 1)) : Value) = .int .i64 (T.uh + 1) from by rw [wrap_in_i64 (T.uh + 1) (by omega) (by omega)]) ?_
            refine WL.runs 3 [(96, .pointer (some ⟨p, 3, none⟩)), (95, .pointer (some ⟨p, 3, none⟩)), (94, .pointer (some ⟨p, 0, none⟩))] (fun _ => by kernel_rfl) ?_
            refine WL.storeM (c' := #[.map (some b), .int .i64 T.th, .int .i64 T.tm, .int .i64 (T.uh + 1), .int .i64 T.um]) hC204 0 3 p 3 (.int .i64 (T.uh + 1)) (by kernel_rfl) rfl (by kernel_rfl) (fun w209 hF211 hC212 => ?_)
            refine WL.done rfl ?_
            refine QX.then_normal (hK208 _ _ ?_)
            refine WC.seq (fun K213 hK214 => ?_)
            refine WC.region ?_
            refine WL.load 34 (.pointer (some ⟨g127, 0, none⟩)) (.agg #[.int .i64 0, .int .u32 0, .int .i64 0, .int .u32 0, .int .i64 0, .int .u32 0, .int .i64 0, .bool false, .bool false, .int .i64 0]) 97 (by kernel_rfl) (run_ld (hC212.get 5 rfl) rfl) ?_
            refine WL.runs 1 [(98, .bool (!(decide (T.uh < T.um))))] (fun _ => by kernel_rfl) ?_
            refine WL.storeM (c' := #[.int .i64 0, .int .u32 0, .int .i64 0, .int .u32 0, .int .i64 0, .int .u32 0, .int .i64 0, .bool false, .bool false, .int .i64 0]) hC212 3 34 g8 0 (.agg #[.int .i64 0, .int .u32 0, .int .i64 0, .int .u32 0, .int .i64 0, .int .u32 0, .int .i64 0, .bool false, .bool false, .int .i64 0]) (by kernel_rfl) rfl (by kernel_rfl) (fun w215 hF217 hC218 => ?_)
            refine WL.runs 2 [(12, .nilIface), (11, .bool (!(decide (T.uh < T.um))))] (fun _ => by kernel_rfl) ?_
            refine WL.done rfl ?_
            refine QX.then_normal (hK214 _ _ ?_)
            refine WC.ret ?_
            refine (hret' _ _ (.tuple #[.agg #[.int .i64 0, .int .u32 0, .int .i64 0, .int .u32 0, .int .i64 0, .int .u32 0, .int .i64 0, .bool false, .bool false, .int .i64 0], .bool (!(decide (T.uh < T.um))), .nilIface]) (fun a ha => ?_) ?_).1
            · exact res_run ha ((ResR.cell rfl (run_ld (hC218.get 3 rfl) rfl) (ResR.tmp rfl (ResR.tmp rfl ResR.nil)))) rfl
            clear hN hret hret' hK214 hK208 hK194 hK140 hK138 hK133 hK126 hK117 hK115 hK74 hK51 hK49 hK47 hK45 hK33 hK31 hK21 hK16 hK14 hK2
            have hfl_ : (!decide (T.uh < T.um)) = false := t141b
            rw [hfl_]
            exact ⟨(⟨(putL T.m f (⟨f, dip, ep, false, false, now⟩ : Ent)), T.th, T.tm, T.uh + 1, T.um⟩ : Tb), zeroE, false, 0, rfl, hC218.fr, ⟨hpb, hC218.get 0 rfl, _, _, hC218.get 1 rfl, hm205⟩, .new t23 t37 (look_none hxv57 (by rw [hbv59]; exact t75b)).1 (by simpa using t118b) (by simpa using t141b)⟩

theorem Put_nil (f : Flow) (dip ep now : Int) (w : World) : Calls Try.prog 11 #[.pointer none, .agg #[.int .i64 f.proto, .int .u32 f.src, .int .i64 f.sport, .int .u32 f.dst, .int .i64 f.dport], .int .u32 dip, .int .i64 ep, .int .i64 now] w fun e w' => e = .returned (.tuple #[.agg #[.int .i64 zeroE.flow.proto, .int .u32 zeroE.flow.src, .int .i64 zeroE.flow.sport, .int .u32 zeroE.flow.dst, .int .i64 zeroE.flow.dport, .int .u32 zeroE.dip, .int .i64 zeroE.epoch, .bool zeroE.trusted, .bool zeroE.closing, .int .i64 zeroE.last], .bool false, errV 47 (if goodF f then (if goodTime now then 5 else 4) else 9)]) ∧ Fr w w' [] := by
  refine enterD (n := 99) Try.func11 rfl rfl (Nat.le_of_ble_eq_true rfl) ?_
  intro Q0 hN hret hret'
  have hC := Cx.start w
  refine WC.seq (fun K1 hK2 => ?_)
  refine WC.region ?_
  refine WL.newM hC (fun b => .pointer (some ⟨b, 0, none⟩)) (.cells #[.int .i64 f.proto, .int .u32 f.src, .int .i64 f.sport, .int .u32 f.dst, .int .i64 f.dport] 32) 6 (fun _ => by kernel_rfl) (fun g3 w4 hb7 hF5 hC6 => ?_)
  refine WL.newM hC6 (fun b => .pointer (some ⟨b, 0, none⟩)) (.cells #[.int .i64 0, .int .u32 0, .int .i64 0, .int .u32 0, .int .i64 0, .int .u32 0, .int .i64 0, .bool false, .bool false, .int .i64 0] 34) 10 (fun _ => by kernel_rfl) (fun g8 w9 hb12 hF10 hC11 => ?_)
  refine WL.runs 2 [(12, .nilIface), (11, .bool false)] (fun _ => by kernel_rfl) ?_
  refine WL.done rfl ?_
  refine QX.then_normal (hK2 _ _ ?_)
  refine WC.seq (fun K13 hK14 => ?_)
  refine WC.seq (fun K15 hK16 => ?_)
  refine WC.region ?_
  refine WL.load 32 (.pointer (some ⟨g3, 0, none⟩)) (.agg #[.int .i64 f.proto, .int .u32 f.src, .int .i64 f.sport, .int .u32 f.dst, .int .i64 f.dport]) 18 (by kernel_rfl) (run_ld (hC11.get 0 rfl) rfl) ?_
  refine WL.call rfl rfl rfl rfl rfl (by kernel_rfl) (CheckF_ct f w9) ?_
  rintro _ w18 ⟨rfl, hF17⟩
  refine ⟨_, rfl, ?_⟩
  have hC19 := hC11.call hF17
  refine WL.runs 1 [(13, errV 47 (if goodF f then 0 else 9))] (fun _ => by kernel_rfl) ?_
  refine WL.done rfl ?_
  refine QX.then_normal (hK16 _ _ ?_)
  refine WC.seq (fun K20 hK21 => ?_)
  refine WC.region ?_
  refine WL.runs 1 [(20, errV 47 (if goodF f then 0 else 9))] (fun _ => by kernel_rfl) ?_
  have hr22 : ∀ w_, Sem.run Try.prog (do eqGuard .neq 26 (Operand.tmp 20) (Operand.const (.nilIface)) (errV 47 (if goodF f then 0 else 9)) (.nilIface); binOp .neq 26 (errV 47 (if goodF f then 0 else 9)) (.nilIface)) w_ = .ok (.bool (!(goodF f))) w_ := fun w_ => (err_neq _ (if goodF f then 0 else 9) (goodF f) (by cases goodF f <;> rfl) _)
  refine WL.sem (do eqGuard .neq 26 (Operand.tmp 20) (Operand.const (.nilIface)) (errV 47 (if goodF f then 0 else 9)) (.nilIface); binOp .neq 26 (errV 47 (if goodF f then 0 else 9)) (.nilIface)) 21 (.bool (!(goodF f))) (by kernel_rfl) (hr22 _) ?_
  refine WL.done rfl ?_
  refine QX.then_normal (hK21 _ _ ?_)
  refine WC.test_at 21 (!(goodF f)) rfl (fun t23b => ?_) (fun t23b => ?_)
  · -- (!(goodF f)) = true: true
    have t23 : (goodF f) = false := by first | (simpa only [Bool.not_eq_true', Bool.not_eq_false'] using t23b) | simpa using t23b
    refine WC.cond_true rfl ?_
    refine WC.seq (fun K24 hK25 => ?_)
    refine WC.region ?_
    refine WL.runs 2 [(23, errV 47 (if goodF f then 0 else 9)), (22, .agg #[.int .i64 0, .int .u32 0, .int .i64 0, .int .u32 0, .int .i64 0, .int .u32 0, .int .i64 0, .bool false, .bool false, .int .i64 0])] (fun _ => by kernel_rfl) ?_
    refine WL.storeM (c' := #[.int .i64 0, .int .u32 0, .int .i64 0, .int .u32 0, .int .i64 0, .int .u32 0, .int .i64 0, .bool false, .bool false, .int .i64 0]) hC19 1 34 g8 0 (.agg #[.int .i64 0, .int .u32 0, .int .i64 0, .int .u32 0, .int .i64 0, .int .u32 0, .int .i64 0, .bool false, .bool false, .int .i64 0]) (by kernel_rfl) rfl (by kernel_rfl) (fun w26 hF28 hC29 => ?_)
    refine WL.runs 2 [(12, errV 47 (if goodF f then 0 else 9)), (11, .bool false)] (fun _ => by kernel_rfl) ?_
    refine WL.done rfl ?_
    refine QX.then_normal (hK25 _ _ ?_)
    refine WC.ret ?_
    refine QX.then_ret ?_
    refine (hret' _ _ (.tuple #[.agg #[.int .i64 0, .int .u32 0, .int .i64 0, .int .u32 0, .int .i64 0, .int .u32 0, .int .i64 0, .bool false, .bool false, .int .i64 0], .bool false, errV 47 (if goodF f then 0 else 9)]) (fun a ha => ?_) ?_).1
    · exact res_run ha ((ResR.cell rfl (run_ld (hC29.get 1 rfl) rfl) (ResR.tmp rfl (ResR.tmp rfl ResR.nil)))) rfl
    clear hN hret hret' hK25 hK21 hK16 hK14 hK2
    have h_ : (if goodF f then (if goodTime now then (5 : Int) else 4) else 9) = 9 := by simp [t23, t23b]
    rw [h_]
    have h2_ : (if goodF f then (0 : Int) else 9) = 9 := by simp [t23, t23b]
    rw [h2_]
    exact ⟨rfl, hC29.fr⟩
  · -- (!(goodF f)) = true: false
    have t23 : (goodF f) = true := by first | (simpa only [Bool.not_eq_true', Bool.not_eq_false'] using t23b) | simpa using t23b
    refine WC.cond_false rfl ?_
    refine WC.skip ?_
    refine QX.then_normal (hK14 _ _ ?_)
    refine WC.seq (fun K30 hK31 => ?_)
    refine WC.seq (fun K32 hK33 => ?_)
    refine WC.region ?_
    refine WL.runs 1 [(24, .int .i64 now)] (fun _ => by kernel_rfl) ?_
    refine WL.call rfl rfl rfl rfl rfl (by kernel_rfl) (goodTime_ct now w18) ?_
    rintro _ w35 ⟨rfl, hF34⟩
    refine ⟨_, rfl, ?_⟩
    have hC36 := hC19.call hF34
    refine WL.runs 1 [(26, .bool (!(goodTime now)))] (fun _ => by kernel_rfl) ?_
    refine WL.done rfl ?_
    refine QX.then_normal (hK33 _ _ ?_)
    refine WC.test_at 26 (!(goodTime now)) rfl (fun t37b => ?_) (fun t37b => ?_)
    · -- (!(goodTime now)) = true: true
      have t37 : (goodTime now) = false := by first | (simpa only [Bool.not_eq_true', Bool.not_eq_false'] using t37b) | simpa using t37b
      refine WC.cond_true rfl ?_
      refine WC.seq (fun K38 hK39 => ?_)
      refine WC.region ?_
      refine WL.runs 2 [(28, .iface 47 (.int .i64 4)), (27, .agg #[.int .i64 0, .int .u32 0, .int .i64 0, .int .u32 0, .int .i64 0, .int .u32 0, .int .i64 0, .bool false, .bool false, .int .i64 0])] (fun _ => by kernel_rfl) ?_
      refine WL.storeM (c' := #[.int .i64 0, .int .u32 0, .int .i64 0, .int .u32 0, .int .i64 0, .int .u32 0, .int .i64 0, .bool false, .bool false, .int .i64 0]) hC36 1 34 g8 0 (.agg #[.int .i64 0, .int .u32 0, .int .i64 0, .int .u32 0, .int .i64 0, .int .u32 0, .int .i64 0, .bool false, .bool false, .int .i64 0]) (by kernel_rfl) rfl (by kernel_rfl) (fun w40 hF42 hC43 => ?_)
      refine WL.runs 2 [(12, .iface 47 (.int .i64 4)), (11, .bool false)] (fun _ => by kernel_rfl) ?_
      refine WL.done rfl ?_
      refine QX.then_normal (hK39 _ _ ?_)
      refine WC.ret ?_
      refine QX.then_ret ?_
      refine (hret' _ _ (.tuple #[.agg #[.int .i64 0, .int .u32 0, .int .i64 0, .int .u32 0, .int .i64 0, .int .u32 0, .int .i64 0, .bool false, .bool false, .int .i64 0], .bool false, .iface 47 (.int .i64 4)]) (fun a ha => ?_) ?_).1
      · exact res_run ha ((ResR.cell rfl (run_ld (hC43.get 1 rfl) rfl) (ResR.tmp rfl (ResR.tmp rfl ResR.nil)))) rfl
      clear hN hret hret' hK39 hK33 hK31 hK21 hK16 hK14 hK2
      have h_ : (if goodF f then (if goodTime now then (5 : Int) else 4) else 9) = 4 := by simp [t23, t23b, t37, t37b]
      rw [h_]
      exact ⟨rfl, hC43.fr⟩
    · -- (!(goodTime now)) = true: false
      have t37 : (goodTime now) = true := by first | (simpa only [Bool.not_eq_true', Bool.not_eq_false'] using t37b) | simpa using t37b
      refine WC.cond_false rfl ?_
      refine WC.skip ?_
      refine QX.then_normal (hK31 _ _ ?_)
      refine WC.seq (fun K44 hK45 => ?_)
      refine WC.seq (fun K46 hK47 => ?_)
      refine WC.region ?_
      refine WL.runs 2 [(30, .bool true), (29, .pointer none)] (fun _ => by kernel_rfl) ?_
      refine WL.done rfl ?_
      refine QX.then_normal (hK47 _ _ ?_)
      refine WC.cond_true rfl ?_
      refine WC.seq (fun K48 hK49 => ?_)
      refine WC.region ?_
      refine WL.runs 2 [(32, .iface 47 (.int .i64 5)), (31, .agg #[.int .i64 0, .int .u32 0, .int .i64 0, .int .u32 0, .int .i64 0, .int .u32 0, .int .i64 0, .bool false, .bool false, .int .i64 0])] (fun _ => by kernel_rfl) ?_
      refine WL.storeM (c' := #[.int .i64 0, .int .u32 0, .int .i64 0, .int .u32 0, .int .i64 0, .int .u32 0, .int .i64 0, .bool false, .bool false, .int .i64 0]) hC36 1 34 g8 0 (.agg #[.int .i64 0, .int .u32 0, .int .i64 0, .int .u32 0, .int .i64 0, .int .u32 0, .int .i64 0, .bool false, .bool false, .int .i64 0]) (by kernel_rfl) rfl (by kernel_rfl) (fun w50 hF52 hC53 => ?_)
      refine WL.runs 2 [(12, .iface 47 (.int .i64 5)), (11, .bool false)] (fun _ => by kernel_rfl) ?_
      refine WL.done rfl ?_
      refine QX.then_normal (hK49 _ _ ?_)
      refine WC.ret ?_
      refine QX.then_ret ?_
      refine (hret' _ _ (.tuple #[.agg #[.int .i64 0, .int .u32 0, .int .i64 0, .int .u32 0, .int .i64 0, .int .u32 0, .int .i64 0, .bool false, .bool false, .int .i64 0], .bool false, .iface 47 (.int .i64 5)]) (fun a ha => ?_) ?_).1
      · exact res_run ha ((ResR.cell rfl (run_ld (hC53.get 1 rfl) rfl) (ResR.tmp rfl (ResR.tmp rfl ResR.nil)))) rfl
      clear hN hret hret' hK49 hK47 hK45 hK33 hK31 hK21 hK16 hK14 hK2
      have h_ : (if goodF f then (if goodTime now then (5 : Int) else 4) else 9) = 5 := by simp [t23, t23b, t37, t37b]
      rw [h_]
      exact ⟨rfl, hC53.fr⟩

set_option maxHeartbeats 2000000 in
theorem Touch_ct (p b : Nat) (T : Tb) (f : Flow) (flags now : Int) (w : World) (ht : tbAt w p b T) (hth : -1000000000 ≤ T.th ∧ T.th ≤ 1000000000) (huh : -1000000000 ≤ T.uh ∧ T.uh ≤ 1000000000) : Calls Try.prog 13 #[.pointer (some ⟨p, 0, none⟩), .agg #[.int .i64 f.proto, .int .u32 f.src, .int .i64 f.sport, .int .u32 f.dst, .int .i64 f.dport], .int .i64 flags, .int .i64 now] w fun e w' => e = .returned (.bool (touchT T f flags now).2) ∧ Fr w w' [p, b] ∧ tbAt w' p b (touchT T f flags now).1 := by
  refine enterD (n := 78) Try.func13 rfl rfl (Nat.le_of_ble_eq_true rfl) ?_
  intro Q0 hN hret hret'
  obtain ⟨hpb, hp_, es, cl, hb_, hm_⟩ := ht
  have hC := Cx.startMs w [(p, .cells #[.map (some b), .int .i64 T.th, .int .i64 T.tm, .int .i64 T.uh, .int .i64 T.um] 75), (b, .map es cl)] (by simpa using hpb) (by simp [hp_, hb_])
  refine WC.seq (fun K1 hK2 => ?_)
  refine WC.region ?_
  refine WL.newM hC (fun b => .pointer (some ⟨b, 0, none⟩)) (.cells #[.int .i64 f.proto, .int .u32 f.src, .int .i64 f.sport, .int .u32 f.dst, .int .i64 f.dport] 32) 5 (fun _ => by kernel_rfl) (fun g3 w4 hb7 hF5 hC6 => ?_)
  refine WL.runs 1 [(8, .bool false)] (fun _ => by kernel_rfl) ?_
  refine WL.done rfl ?_
  refine QX.then_normal (hK2 _ _ ?_)
  refine WC.seq (fun K8 hK9 => ?_)
  refine WC.region ?_
  refine WL.runs 1 [(12, .pointer (some ⟨p, 0, none⟩))] (fun _ => by kernel_rfl) ?_
  refine WL.load 32 (.pointer (some ⟨g3, 0, none⟩)) (.agg #[.int .i64 f.proto, .int .u32 f.src, .int .i64 f.sport, .int .u32 f.dst, .int .i64 f.dport]) 13 (by kernel_rfl) (run_ld (hC6.get 2 rfl) rfl) ?_
  have hg14 := Get_ct p b (⟨T.m, T.th, T.tm, T.uh, T.um⟩ : Tb) f w4 (⟨hpb, hC6.get 0 rfl, es, cl, hC6.get 1 rfl, hm_⟩ : tbAt w4 p b (⟨T.m, T.th, T.tm, T.uh, T.um⟩ : Tb))
  obtain ⟨xv10, hxv11⟩ : ∃ x_, (lookL (⟨T.m, T.th, T.tm, T.uh, T.um⟩ : Tb).m f).getD zeroE = x_ := ⟨_, rfl⟩
  obtain ⟨bv12, hbv13⟩ : ∃ b_, (lookL (⟨T.m, T.th, T.tm, T.uh, T.um⟩ : Tb).m f).isSome = b_ := ⟨_, rfl⟩
  rw [hxv11, hbv13] at hg14
  refine WL.call rfl rfl rfl rfl rfl (by kernel_rfl) (hg14) ?_
  rintro _ w16 ⟨rfl, hF15⟩
  refine ⟨_, rfl, ?_⟩
  have hC17 := hC6.call hF15
  refine WL.runs 3 [(16, .bool bv12), (15, .agg #[.int .i64 xv10.flow.proto, .int .u32 xv10.flow.src, .int .i64 xv10.flow.sport, .int .u32 xv10.flow.dst, .int .i64 xv10.flow.dport, .int .u32 xv10.dip, .int .i64 xv10.epoch, .bool xv10.trusted, .bool xv10.closing, .int .i64 xv10.last]), (11, .tuple #[.agg #[.int .i64 xv10.flow.proto, .int .u32 xv10.flow.src, .int .i64 xv10.flow.sport, .int .u32 xv10.flow.dst, .int .i64 xv10.flow.dport, .int .u32 xv10.dip, .int .i64 xv10.epoch, .bool xv10.trusted, .bool xv10.closing, .int .i64 xv10.last], .bool bv12])] (fun _ => by kernel_rfl) ?_
  refine WL.newM hC17 (fun b => .pointer (some ⟨b, 0, none⟩)) (.cells #[.int .i64 0, .int .u32 0, .int .i64 0, .int .u32 0, .int .i64 0, .int .u32 0, .int .i64 0, .bool false, .bool false, .int .i64 0] 34) 9 (fun _ => by kernel_rfl) (fun g18 w19 hb22 hF20 hC21 => ?_)
  refine WL.storeM (c' := #[.int .i64 xv10.flow.proto, .int .u32 xv10.flow.src, .int .i64 xv10.flow.sport, .int .u32 xv10.flow.dst, .int .i64 xv10.flow.dport, .int .u32 xv10.dip, .int .i64 xv10.epoch, .bool xv10.trusted, .bool xv10.closing, .int .i64 xv10.last]) hC21 3 34 g18 0 (.agg #[.int .i64 xv10.flow.proto, .int .u32 xv10.flow.src, .int .i64 xv10.flow.sport, .int .u32 xv10.flow.dst, .int .i64 xv10.flow.dport, .int .u32 xv10.dip, .int .i64 xv10.epoch, .bool xv10.trusted, .bool xv10.closing, .int .i64 xv10.last]) (by kernel_rfl) rfl (by kernel_rfl) (fun w23 hF25 hC26 => ?_)
  refine WL.runs 1 [(10, .bool bv12)] (fun _ => by kernel_rfl) ?_
  refine WL.done rfl ?_
  refine QX.then_normal (hK9 _ _ ?_)
  refine WC.seq (fun K27 hK28 => ?_)
  refine WC.seq (fun K29 hK30 => ?_)
  refine WC.region ?_
  refine WL.runs 3 [(19, .bool !bv12), (18, .bool !bv12), (17, .bool bv12)] (fun _ => by kernel_rfl) ?_
  refine WL.test_at 19 (!bv12) rfl (fun t31b => ?_) (fun t31b => ?_)
  · -- !bv12 = true: true
    have t31 : bv12 = false := by first | (simpa only [Bool.not_eq_true', Bool.not_eq_false'] using t31b) | simpa using t31b
    refine WL.runs 4 [(23, .bool true), (22, undef), (21, undef), (20, undef)] (fun _ => by kernel_rfl) ?_
    refine WL.done rfl ?_
    refine QX.then_normal (hK30 _ _ ?_)
    refine WC.cond_true rfl ?_
    refine WC.seq (fun K32 hK33 => ?_)
    refine WC.region ?_
    refine WL.runs 1 [(8, .bool false)] (fun _ => by kernel_rfl) ?_
    refine WL.done rfl ?_
    refine QX.then_normal (hK33 _ _ ?_)
    refine WC.ret ?_
    refine QX.then_ret ?_
    refine (hret _ _ _ rfl ?_).1
    clear hN hret hret' hK33 hK30 hK28 hK9 hK2
    have h_ : touchT T f flags now = (T, false) := by unfold touchT; rw [(look_none hxv11 (by rw [hbv13]; simpa using t31b)).1]
    rw [h_]
    exact ⟨rfl, hC26.fr, hpb, hC26.get 0 rfl, _, _, hC26.get 1 rfl, hm_⟩
  · -- !bv12 = true: false
    have t31 : bv12 = true := by first | (simpa only [Bool.not_eq_true', Bool.not_eq_false'] using t31b) | simpa using t31b
    refine WL.runs 1 [(20, .int .i64 now)] (fun _ => by kernel_rfl) ?_
    refine WL.call rfl rfl rfl rfl rfl (by kernel_rfl) (goodTime_ct now w23) ?_
    rintro _ w35 ⟨rfl, hF34⟩
    refine ⟨_, rfl, ?_⟩
    have hC36 := hC26.call hF34
    refine WL.runs 2 [(23, .bool (!(goodTime now))), (22, .bool (!(goodTime now)))] (fun _ => by kernel_rfl) ?_
    refine WL.done rfl ?_
    refine QX.then_normal (hK30 _ _ ?_)
    refine WC.test_at 23 (!(goodTime now)) rfl (fun t37b => ?_) (fun t37b => ?_)
    · -- (!(goodTime now)) = true: true
      have t37 : (goodTime now) = false := by first | (simpa only [Bool.not_eq_true', Bool.not_eq_false'] using t37b) | simpa using t37b
      refine WC.cond_true rfl ?_
      refine WC.seq (fun K38 hK39 => ?_)
      refine WC.region ?_
      refine WL.runs 1 [(8, .bool false)] (fun _ => by kernel_rfl) ?_
      refine WL.done rfl ?_
      refine QX.then_normal (hK39 _ _ ?_)
      refine WC.ret ?_
      refine QX.then_ret ?_
      refine (hret _ _ _ rfl ?_).1
      clear hN hret hret' hK39 hK30 hK28 hK9 hK2
      have h_ : touchT T f flags now = (T, false) := by
        (first | contradiction | skip)
        all_goals unfold touchT
        all_goals rw [(look_some hxv11 (by rw [hbv13]; simpa using t31b))]
        all_goals simp [t31, t31b, t37, t37b]
        all_goals (try (intro hq_; exfalso; omega))
      rw [h_]
      exact ⟨rfl, hC36.fr, hpb, hC36.get 0 rfl, _, _, hC36.get 1 rfl, hm_⟩
    · -- (!(goodTime now)) = true: false
      have t37 : (goodTime now) = true := by first | (simpa only [Bool.not_eq_true', Bool.not_eq_false'] using t37b) | simpa using t37b
      refine WC.cond_false rfl ?_
      refine WC.skip ?_
      refine QX.then_normal (hK28 _ _ ?_)
      refine WC.seq (fun K40 hK41 => ?_)
      refine WC.seq (fun K42 hK43 => ?_)
      refine WC.region ?_
      refine WL.runs 1 [(24, .pointer (some ⟨g3, 0, none⟩))] (fun _ => by kernel_rfl) ?_
      refine WL.load 3 (.pointer (some ⟨g3, 0, none⟩)) (.int .i64 f.proto) 25 (by kernel_rfl) (run_ld (hC36.get 2 rfl) rfl) ?_
      refine WL.runs 1 [(26, .bool (f.proto != 6))] (fun _ => by kernel_rfl) ?_
      refine WL.done rfl ?_
      refine QX.then_normal (hK43 _ _ ?_)
      refine WC.test_at 26 (f.proto != 6) rfl (fun t44b => ?_) (fun t44b => ?_)
      · -- f.proto ≠ 6: true
        have t44 : f.proto ≠ 6 := by simpa using t44b
        refine WC.cond_true rfl ?_
        refine WC.region ?_
        refine WL.runs 1 [(2, .int .i64 0)] (fun _ => by kernel_rfl) ?_
        refine WL.done rfl ?_
        refine QX.then_normal (hK41 _ _ ?_)
        refine WC.seq (fun K45 hK46 => ?_)
        refine WC.region ?_
        refine WL.runs 2 [(28, .pointer (some ⟨g18, 9, none⟩)), (27, .int .i64 now)] (fun _ => by kernel_rfl) ?_
        refine WL.storeM (c' := #[.int .i64 xv10.flow.proto, .int .u32 xv10.flow.src, .int .i64 xv10.flow.sport, .int .u32 xv10.flow.dst, .int .i64 xv10.flow.dport, .int .u32 xv10.dip, .int .i64 xv10.epoch, .bool xv10.trusted, .bool xv10.closing, .int .i64 now]) hC36 3 3 g18 9 (.int .i64 now) (by kernel_rfl) rfl (by kernel_rfl) (fun w47 hF49 hC50 => ?_)
        refine WL.done rfl ?_
        refine QX.then_normal (hK46 _ _ ?_)
        refine WC.seq (fun K51 hK52 => ?_)
        refine WC.block ?_
        refine WC.seq (fun K53 hK54 => ?_)
        refine WC.region ?_
        refine WL.runs 4 [(29, .bool ((Go.bits .and .i64 0 5) != 0)), (32, .bool ((Go.bits .and .i64 0 5) != 0)), (31, .int .i64 (Go.bits .and .i64 0 5)), (30, .int .i64 0)] (fun _ => by kernel_rfl) ?_
        refine WL.done rfl ?_
        refine QX.then_normal (hK54 _ _ ?_)
        refine WC.test_at 29 ((Go.bits .and .i64 0 5) != 0) rfl (fun t55b => ?_) (fun t55b => ?_)
        · -- (Go.bits .and .i64 0 5) ≠ 0: true
          have t55 : (Go.bits .and .i64 0 5) ≠ 0 := by simpa using t55b
          refine WC.cond_true rfl ?_
          refine WC.region ?_
          refine WL.runs 1 [(33, .pointer (some ⟨g18, 8, none⟩))] (fun _ => by kernel_rfl) ?_
          refine WL.storeM (c' := #[.int .i64 xv10.flow.proto, .int .u32 xv10.flow.src, .int .i64 xv10.flow.sport, .int .u32 xv10.flow.dst, .int .i64 xv10.flow.dport, .int .u32 xv10.dip, .int .i64 xv10.epoch, .bool xv10.trusted, .bool true, .int .i64 now]) hC50 3 4 g18 8 (.bool true) (by kernel_rfl) rfl (by kernel_rfl) (fun w56 hF58 hC59 => ?_)
          refine WL.done rfl ?_
          refine QX.block_normal ?_
          refine QX.then_normal (hK52 _ _ ?_)
          refine WC.seq (fun K60 hK61 => ?_)
          refine WC.seq (fun K62 hK63 => ?_)
          refine WC.region ?_
          refine WL.runs 1 [(39, .pointer (some ⟨g18, 7, none⟩))] (fun _ => by kernel_rfl) ?_
          refine WL.load 4 (.pointer (some ⟨g18, 7, none⟩)) (.bool xv10.trusted) 40 (by kernel_rfl) (run_ld (hC59.get 3 rfl) rfl) ?_
          refine WL.runs 2 [(42, .bool !xv10.trusted), (41, .bool !xv10.trusted)] (fun _ => by kernel_rfl) ?_
          refine WL.test_at 42 (!xv10.trusted) rfl (fun t64b => ?_) (fun t64b => ?_)
          · -- !xv10.trusted = true: true
            have t64 : xv10.trusted = false := by first | (simpa only [Bool.not_eq_true', Bool.not_eq_false'] using t64b) | simpa using t64b
            refine WL.runs 5 [(47, .bool ((Go.bits .and .i64 0 2) == 0)), (46, .bool ((Go.bits .and .i64 0 2) == 0)), (45, .bool ((Go.bits .and .i64 0 2) == 0)), (44, .int .i64 (Go.bits .and .i64 0 2)), (43, .int .i64 0)] (fun _ => by kernel_rfl) ?_
            refine WL.test_at 47 ((Go.bits .and .i64 0 2) == 0) rfl (fun t65b => ?_) (fun t65b => ?_)
            · -- (Go.bits .and .i64 0 2) = 0: true
              have t65 : (Go.bits .and .i64 0 2) = 0 := by simpa using t65b
              refine WL.runs 3 [(50, .pointer (some ⟨p, 1, none⟩)), (49, .pointer (some ⟨p, 0, none⟩)), (48, .pointer (some ⟨p, 0, none⟩))] (fun _ => by kernel_rfl) ?_
              refine WL.call rfl rfl rfl rfl rfl (by kernel_rfl) (room_ct p 1 T.th T.tm w56 (by rw [cell_blk (hC59.get 0 rfl)]; rfl) (by rw [cell_blk (hC59.get 0 rfl)]; rfl)) ?_
              rintro _ w67 ⟨rfl, hF66⟩
              refine ⟨_, rfl, ?_⟩
              have hC68 := hC59.call hF66
              refine WL.runs 1 [(52, .bool (decide (T.th < T.tm)))] (fun _ => by kernel_rfl) ?_
              refine WL.done rfl ?_
              refine QX.then_normal (hK63 _ _ ?_)
              refine WC.test_at 52 (decide (T.th < T.tm)) rfl (fun t69b => ?_) (fun t69b => ?_)
              · -- T.th < T.tm: true
                have t69 : T.th < T.tm := by have q_ := of_decide_eq_true t69b; omega
                refine WC.cond_true rfl ?_
                refine WC.seq (fun K70 hK71 => ?_)
                refine WC.region ?_
                refine WL.runs 1 [(53, .pointer (some ⟨g18, 7, none⟩))] (fun _ => by kernel_rfl) ?_
                refine WL.storeM (c' := #[.int .i64 xv10.flow.proto, .int .u32 xv10.flow.src, .int .i64 xv10.flow.sport, .int .u32 xv10.flow.dst, .int .i64 xv10.flow.dport, .int .u32 xv10.dip, .int .i64 xv10.epoch, .bool true, .bool true, .int .i64 now]) hC68 3 4 g18 7 (.bool true) (by kernel_rfl) rfl (by kernel_rfl) (fun w72 hF74 hC75 => ?_)
                refine WL.done rfl ?_
                refine QX.then_normal (hK71 _ _ ?_)
                refine WC.seq (fun K76 hK77 => ?_)
                refine WC.region ?_
                refine WL.runs 4 [(57, .pointer (some ⟨p, 3, none⟩)), (56, .pointer (some ⟨p, 3, none⟩)), (55, .pointer (some ⟨p, 0, none⟩)), (54, .pointer (some ⟨p, 0, none⟩))] (fun _ => by kernel_rfl) ?_
                refine WL.load 3 (.pointer (some ⟨p, 3, none⟩)) (.int .i64 T.uh) 58 (by kernel_rfl) (run_ld (hC75.get 0 rfl) rfl) ?_
                refine WL.runs 1 [(59, .int .i64 (IntKind.i64.wrap (T.uh - 1)))] (fun _ => by kernel_rfl) ?_
                refine WL.recast (show (.int .i64 (IntKind.i64.wrap (T.uh - 1)) : Value) = .int .i64 (T.uh - 1) from by rw [wrap_in_i64 (T.uh - 1) (by omega) (by omega)]) ?_
                refine WL.runs 3 [(62, .pointer (some ⟨p, 3, none⟩)), (61, .pointer (some ⟨p, 3, none⟩)), (60, .pointer (some ⟨p, 0, none⟩))] (fun _ => by kernel_rfl) ?_
                refine WL.storeM (c' := #[.map (some b), .int .i64 T.th, .int .i64 T.tm, .int .i64 (T.uh - 1), .int .i64 T.um]) hC75 0 3 p 3 (.int .i64 (T.uh - 1)) (by kernel_rfl) rfl (by kernel_rfl) (fun w78 hF80 hC81 => ?_)
                refine WL.done rfl ?_
                refine QX.then_normal (hK77 _ _ ?_)
                refine WC.region ?_
                refine WL.runs 4 [(66, .pointer (some ⟨p, 1, none⟩)), (65, .pointer (some ⟨p, 1, none⟩)), (64, .pointer (some ⟨p, 0, none⟩)), (63, .pointer (some ⟨p, 0, none⟩))] (fun _ => by kernel_rfl) ?_
                refine WL.load 3 (.pointer (some ⟨p, 1, none⟩)) (.int .i64 T.th) 67 (by kernel_rfl) (run_ld (hC81.get 0 rfl) rfl) ?_
                refine WL.runs 1 [(68, .int .i64 (IntKind.i64.wrap (T.th + 1)))] (fun _ => by kernel_rfl) ?_
                refine WL.recast (show (.int .i64 (IntKind.i64.wrap (T.th + 1)) : Value) = .int .i64 (T.th + 1) from by rw [wrap_in_i64 (T.th + 1) (by omega) (by omega)]) ?_
                refine WL.runs 3 [(71, .pointer (some ⟨p, 1, none⟩)), (70, .pointer (some ⟨p, 1, none⟩)), (69, .pointer (some ⟨p, 0, none⟩))] (fun _ => by kernel_rfl) ?_
                refine WL.storeM (c' := #[.map (some b), .int .i64 (T.th + 1), .int .i64 T.tm, .int .i64 (T.uh - 1), .int .i64 T.um]) hC81 0 3 p 1 (.int .i64 (T.th + 1)) (by kernel_rfl) rfl (by kernel_rfl) (fun w82 hF84 hC85 => ?_)
                refine WL.done rfl ?_
                refine QX.then_normal (hK61 _ _ ?_)
                refine WC.seq (fun K86 hK87 => ?_)
                refine WC.drawC hC85 [b] (by kernel_rfl) (fun w88 hF89 hC90 hS91 => ?_)
                refine WD.pure (NoPanic.then hN) 0 72 (.pointer (some ⟨p, 0, none⟩)) (by kernel_rfl) (fun _ => by kernel_rfl) hS91 ?_
                refine WD.pure (NoPanic.then hN) 1 73 (.pointer (some ⟨p, 0, none⟩)) (by kernel_rfl) (fun _ => by kernel_rfl) hS91 ?_
                refine WD.pure (NoPanic.then hN) 2 74 (.pointer (some ⟨p, 0, none⟩)) (by kernel_rfl) (fun _ => by kernel_rfl) hS91 ?_
                refine WD.load (NoPanic.then hN) 3 71 (.pointer (some ⟨p, 0, none⟩)) (.map (some b)) 75 (by kernel_rfl) (by kernel_rfl) (fun _ hS_ => run_ld (Fr.has hS_ (hC90.get 0 rfl) (by simpa using hC90.ne 0 1 rfl rfl (by decide))) rfl) hS91 ?_
                refine WD.load (NoPanic.then hN) 4 32 (.pointer (some ⟨g3, 0, none⟩)) (.agg #[.int .i64 f.proto, .int .u32 f.src, .int .i64 f.sport, .int .u32 f.dst, .int .i64 f.dport]) 76 (by kernel_rfl) (by kernel_rfl) (fun _ hS_ => run_ld (Fr.has hS_ (hC90.get 2 rfl) (by simpa using hC90.ne 2 1 rfl rfl (by decide))) rfl) hS91 ?_
                refine WD.sem 5 (Instr.loadAt 34 (.pointer (some ⟨g18, 0, none⟩))) 77 (.agg #[.int .i64 xv10.flow.proto, .int .u32 xv10.flow.src, .int .i64 xv10.flow.sport, .int .u32 xv10.flow.dst, .int .i64 xv10.flow.dport, .int .u32 xv10.dip, .int .i64 xv10.epoch, .bool true, .bool true, .int .i64 now]) (by kernel_rfl) (by kernel_rfl) (run_ld (hC90.get 3 rfl) rfl) hS91 ?_
                obtain ⟨w92, es93, cl94, hr95, hF96, hC97, hm98⟩ := putM_run (P := Try.prog) (ek := encF) (ev := encE) hC90 1 rfl (show Try.prog.underlying 71 = some (.map 32 34) from by kernel_rfl) keyF hm_ f (⟨xv10.flow, xv10.dip, xv10.epoch, true, true, now⟩ : Ent)
                have hS99 := hS91.trans hF96 (by simp)
                refine WD.semU 6 (Instr.mapUpdate 71 (.map (some b)) (.agg #[.int .i64 f.proto, .int .u32 f.src, .int .i64 f.sport, .int .u32 f.dst, .int .i64 f.dport]) (.agg #[.int .i64 xv10.flow.proto, .int .u32 xv10.flow.src, .int .i64 xv10.flow.sport, .int .u32 xv10.flow.dst, .int .i64 xv10.flow.dport, .int .u32 xv10.dip, .int .i64 xv10.epoch, .bool true, .bool true, .int .i64 now])) (by kernel_rfl) (by kernel_rfl) hr95 hS99 ?_
                refine WD.done (by kernel_rfl) ?_
                refine QX.then_normal (hK87 _ _ ?_)
                refine WC.seq (fun K100 hK101 => ?_)
                refine WC.region ?_
                refine WL.runs 1 [(8, .bool true)] (fun _ => by kernel_rfl) ?_
                refine WL.done rfl ?_
                refine QX.then_normal (hK101 _ _ ?_)
                refine WC.ret ?_
                refine (hret _ _ _ rfl ?_).1
                clear hN hret hret' hK101 hK87 hK77 hK71 hK63 hK61 hK54 hK52 hK46 hK43 hK41 hK30 hK28 hK9 hK2
                have h_ : touchT T f flags now = ((⟨(putL T.m f (⟨xv10.flow, xv10.dip, xv10.epoch, true, true, now⟩ : Ent)), T.th + 1, T.tm, T.uh - 1, T.um⟩ : Tb), true) := by
                  (first | contradiction | skip)
                  all_goals unfold touchT
                  all_goals rw [(look_some hxv11 (by rw [hbv13]; simpa using t31b))]
                  all_goals simp [t31, t31b, t37, t37b, t44, t44b, t55, t55b, t64, t64b, t65, t65b, t69, t69b]
                  all_goals (try (intro hq_; exfalso; omega))
                rw [h_]
                exact ⟨rfl, hC97.fr, hpb, hC97.get 0 rfl, _, _, hC97.get 1 rfl, hm98⟩
              · -- T.th < T.tm: false
                have t69 : T.tm ≤ T.th := by have q_ := of_decide_eq_false t69b; omega
                refine WC.cond_false rfl ?_
                refine WC.skip ?_
                refine QX.then_normal (hK61 _ _ ?_)
                refine WC.seq (fun K102 hK103 => ?_)
                refine WC.drawC hC68 [b] (by kernel_rfl) (fun w104 hF105 hC106 hS107 => ?_)
                refine WD.pure (NoPanic.then hN) 0 72 (.pointer (some ⟨p, 0, none⟩)) (by kernel_rfl) (fun _ => by kernel_rfl) hS107 ?_
                refine WD.pure (NoPanic.then hN) 1 73 (.pointer (some ⟨p, 0, none⟩)) (by kernel_rfl) (fun _ => by kernel_rfl) hS107 ?_
                refine WD.pure (NoPanic.then hN) 2 74 (.pointer (some ⟨p, 0, none⟩)) (by kernel_rfl) (fun _ => by kernel_rfl) hS107 ?_
                refine WD.load (NoPanic.then hN) 3 71 (.pointer (some ⟨p, 0, none⟩)) (.map (some b)) 75 (by kernel_rfl) (by kernel_rfl) (fun _ hS_ => run_ld (Fr.has hS_ (hC106.get 0 rfl) (by simpa using hC106.ne 0 1 rfl rfl (by decide))) rfl) hS107 ?_
                refine WD.load (NoPanic.then hN) 4 32 (.pointer (some ⟨g3, 0, none⟩)) (.agg #[.int .i64 f.proto, .int .u32 f.src, .int .i64 f.sport, .int .u32 f.dst, .int .i64 f.dport]) 76 (by kernel_rfl) (by kernel_rfl) (fun _ hS_ => run_ld (Fr.has hS_ (hC106.get 2 rfl) (by simpa using hC106.ne 2 1 rfl rfl (by decide))) rfl) hS107 ?_
                refine WD.sem 5 (Instr.loadAt 34 (.pointer (some ⟨g18, 0, none⟩))) 77 (.agg #[.int .i64 xv10.flow.proto, .int .u32 xv10.flow.src, .int .i64 xv10.flow.sport, .int .u32 xv10.flow.dst, .int .i64 xv10.flow.dport, .int .u32 xv10.dip, .int .i64 xv10.epoch, .bool xv10.trusted, .bool true, .int .i64 now]) (by kernel_rfl) (by kernel_rfl) (run_ld (hC106.get 3 rfl) rfl) hS107 ?_
                obtain ⟨w108, es109, cl110, hr111, hF112, hC113, hm114⟩ := putM_run (P := Try.prog) (ek := encF) (ev := encE) hC106 1 rfl (show Try.prog.underlying 71 = some (.map 32 34) from by kernel_rfl) keyF hm_ f (⟨xv10.flow, xv10.dip, xv10.epoch, xv10.trusted, true, now⟩ : Ent)
                have hS115 := hS107.trans hF112 (by simp)
                refine WD.semU 6 (Instr.mapUpdate 71 (.map (some b)) (.agg #[.int .i64 f.proto, .int .u32 f.src, .int .i64 f.sport, .int .u32 f.dst, .int .i64 f.dport]) (.agg #[.int .i64 xv10.flow.proto, .int .u32 xv10.flow.src, .int .i64 xv10.flow.sport, .int .u32 xv10.flow.dst, .int .i64 xv10.flow.dport, .int .u32 xv10.dip, .int .i64 xv10.epoch, .bool xv10.trusted, .bool true, .int .i64 now])) (by kernel_rfl) (by kernel_rfl) hr111 hS115 ?_
                refine WD.done (by kernel_rfl) ?_
                refine QX.then_normal (hK103 _ _ ?_)
                refine WC.seq (fun K116 hK117 => ?_)
                refine WC.region ?_
                refine WL.runs 1 [(8, .bool true)] (fun _ => by kernel_rfl) ?_
                refine WL.done rfl ?_
                refine QX.then_normal (hK117 _ _ ?_)
                refine WC.ret ?_
                refine (hret _ _ _ rfl ?_).1
                clear hN hret hret' hK117 hK103 hK63 hK61 hK54 hK52 hK46 hK43 hK41 hK30 hK28 hK9 hK2
                have h_ : touchT T f flags now = ((⟨(putL T.m f (⟨xv10.flow, xv10.dip, xv10.epoch, xv10.trusted, true, now⟩ : Ent)), T.th, T.tm, T.uh, T.um⟩ : Tb), true) := by
                  (first | contradiction | skip)
                  all_goals unfold touchT
                  all_goals rw [(look_some hxv11 (by rw [hbv13]; simpa using t31b))]
                  all_goals simp [t31, t31b, t37, t37b, t44, t44b, t55, t55b, t64, t64b, t65, t65b, t69, t69b]
                  all_goals (try (intro hq_; exfalso; omega))
                rw [h_]
                exact ⟨rfl, hC113.fr, hpb, hC113.get 0 rfl, _, _, hC113.get 1 rfl, hm114⟩
            · -- (Go.bits .and .i64 0 2) = 0: false
              have t65 : ¬ ((Go.bits .and .i64 0 2) = 0) := by simpa using t65b
              refine WL.runs 5 [(52, .bool false), (51, undef), (50, undef), (49, undef), (48, undef)] (fun _ => by kernel_rfl) ?_
              refine WL.done rfl ?_
              refine QX.then_normal (hK63 _ _ ?_)
              refine WC.cond_false rfl ?_
              refine WC.skip ?_
              refine QX.then_normal (hK61 _ _ ?_)
              refine WC.seq (fun K118 hK119 => ?_)
              refine WC.drawC hC59 [b] (by kernel_rfl) (fun w120 hF121 hC122 hS123 => ?_)
              refine WD.pure (NoPanic.then hN) 0 72 (.pointer (some ⟨p, 0, none⟩)) (by kernel_rfl) (fun _ => by kernel_rfl) hS123 ?_
              refine WD.pure (NoPanic.then hN) 1 73 (.pointer (some ⟨p, 0, none⟩)) (by kernel_rfl) (fun _ => by kernel_rfl) hS123 ?_
              refine WD.pure (NoPanic.then hN) 2 74 (.pointer (some ⟨p, 0, none⟩)) (by kernel_rfl) (fun _ => by kernel_rfl) hS123 ?_
              refine WD.load (NoPanic.then hN) 3 71 (.pointer (some ⟨p, 0, none⟩)) (.map (some b)) 75 (by kernel_rfl) (by kernel_rfl) (fun _ hS_ => run_ld (Fr.has hS_ (hC122.get 0 rfl) (by simpa using hC122.ne 0 1 rfl rfl (by decide))) rfl) hS123 ?_
              refine WD.load (NoPanic.then hN) 4 32 (.pointer (some ⟨g3, 0, none⟩)) (.agg #[.int .i64 f.proto, .int .u32 f.src, .int .i64 f.sport, .int .u32 f.dst, .int .i64 f.dport]) 76 (by kernel_rfl) (by kernel_rfl) (fun _ hS_ => run_ld (Fr.has hS_ (hC122.get 2 rfl) (by simpa using hC122.ne 2 1 rfl rfl (by decide))) rfl) hS123 ?_
              refine WD.sem 5 (Instr.loadAt 34 (.pointer (some ⟨g18, 0, none⟩))) 77 (.agg #[.int .i64 xv10.flow.proto, .int .u32 xv10.flow.src, .int .i64 xv10.flow.sport, .int .u32 xv10.flow.dst, .int .i64 xv10.flow.dport, .int .u32 xv10.dip, .int .i64 xv10.epoch, .bool xv10.trusted, .bool true, .int .i64 now]) (by kernel_rfl) (by kernel_rfl) (run_ld (hC122.get 3 rfl) rfl) hS123 ?_
              obtain ⟨w124, es125, cl126, hr127, hF128, hC129, hm130⟩ := putM_run (P := Try.prog) (ek := encF) (ev := encE) hC122 1 rfl (show Try.prog.underlying 71 = some (.map 32 34) from by kernel_rfl) keyF hm_ f (⟨xv10.flow, xv10.dip, xv10.epoch, xv10.trusted, true, now⟩ : Ent)
              have hS131 := hS123.trans hF128 (by simp)
              refine WD.semU 6 (Instr.mapUpdate 71 (.map (some b)) (.agg #[.int .i64 f.proto, .int .u32 f.src, .int .i64 f.sport, .int .u32 f.dst, .int .i64 f.dport]) (.agg #[.int .i64 xv10.flow.proto, .int .u32 xv10.flow.src, .int .i64 xv10.flow.sport, .int .u32 xv10.flow.dst, .int .i64 xv10.flow.dport, .int .u32 xv10.dip, .int .i64 xv10.epoch, .bool xv10.trusted, .bool true, .int .i64 now])) (by kernel_rfl) (by kernel_rfl) hr127 hS131 ?_
              refine WD.done (by kernel_rfl) ?_
              refine QX.then_normal (hK119 _ _ ?_)
              refine WC.seq (fun K132 hK133 => ?_)
              refine WC.region ?_
              refine WL.runs 1 [(8, .bool true)] (fun _ => by kernel_rfl) ?_
              refine WL.done rfl ?_
              refine QX.then_normal (hK133 _ _ ?_)
              refine WC.ret ?_
              refine (hret _ _ _ rfl ?_).1
              clear hN hret hret' hK133 hK119 hK63 hK61 hK54 hK52 hK46 hK43 hK41 hK30 hK28 hK9 hK2
              have h_ : touchT T f flags now = ((⟨(putL T.m f (⟨xv10.flow, xv10.dip, xv10.epoch, xv10.trusted, true, now⟩ : Ent)), T.th, T.tm, T.uh, T.um⟩ : Tb), true) := by
                (first | contradiction | skip)
                all_goals unfold touchT
                all_goals rw [(look_some hxv11 (by rw [hbv13]; simpa using t31b))]
                all_goals simp [t31, t31b, t37, t37b, t44, t44b, t55, t55b, t64, t64b, t65, t65b]
                all_goals (try (intro hq_; exfalso; omega))
              rw [h_]
              exact ⟨rfl, hC129.fr, hpb, hC129.get 0 rfl, _, _, hC129.get 1 rfl, hm130⟩
          · -- !xv10.trusted = true: false
            have t64 : xv10.trusted = true := by first | (simpa only [Bool.not_eq_true', Bool.not_eq_false'] using t64b) | simpa using t64b
            refine WL.runs 10 [(52, .bool false), (51, undef), (50, undef), (49, undef), (48, undef), (47, .bool false), (46, .bool false), (45, undef), (44, undef), (43, undef)] (fun _ => by kernel_rfl) ?_
            refine WL.done rfl ?_
            refine QX.then_normal (hK63 _ _ ?_)
            refine WC.cond_false rfl ?_
            refine WC.skip ?_
            refine QX.then_normal (hK61 _ _ ?_)
            refine WC.seq (fun K134 hK135 => ?_)
            refine WC.drawC hC59 [b] (by kernel_rfl) (fun w136 hF137 hC138 hS139 => ?_)
            refine WD.pure (NoPanic.then hN) 0 72 (.pointer (some ⟨p, 0, none⟩)) (by kernel_rfl) (fun _ => by kernel_rfl) hS139 ?_
            refine WD.pure (NoPanic.then hN) 1 73 (.pointer (some ⟨p, 0, none⟩)) (by kernel_rfl) (fun _ => by kernel_rfl) hS139 ?_
            refine WD.pure (NoPanic.then hN) 2 74 (.pointer (some ⟨p, 0, none⟩)) (by kernel_rfl) (fun _ => by kernel_rfl) hS139 ?_
            refine WD.load (NoPanic.then hN) 3 71 (.pointer (some ⟨p, 0, none⟩)) (.map (some b)) 75 (by kernel_rfl) (by kernel_rfl) (fun _ hS_ => run_ld (Fr.has hS_ (hC138.get 0 rfl) (by simpa using hC138.ne 0 1 rfl rfl (by decide))) rfl) hS139 ?_
            refine WD.load (NoPanic.then hN) 4 32 (.pointer (some ⟨g3, 0, none⟩)) (.agg #[.int .i64 f.proto, .int .u32 f.src, .int .i64 f.sport, .int .u32 f.dst, .int .i64 f.dport]) 76 (by kernel_rfl) (by kernel_rfl) (fun _ hS_ => run_ld (Fr.has hS_ (hC138.get 2 rfl) (by simpa using hC138.ne 2 1 rfl rfl (by decide))) rfl) hS139 ?_
            refine WD.sem 5 (Instr.loadAt 34 (.pointer (some ⟨g18, 0, none⟩))) 77 (.agg #[.int .i64 xv10.flow.proto, .int .u32 xv10.flow.src, .int .i64 xv10.flow.sport, .int .u32 xv10.flow.dst, .int .i64 xv10.flow.dport, .int .u32 xv10.dip, .int .i64 xv10.epoch, .bool xv10.trusted, .bool true, .int .i64 now]) (by kernel_rfl) (by kernel_rfl) (run_ld (hC138.get 3 rfl) rfl) hS139 ?_
            obtain ⟨w140, es141, cl142, hr143, hF144, hC145, hm146⟩ := putM_run (P := Try.prog) (ek := encF) (ev := encE) hC138 1 rfl (show Try.prog.underlying 71 = some (.map 32 34) from by kernel_rfl) keyF hm_ f (⟨xv10.flow, xv10.dip, xv10.epoch, xv10.trusted, true, now⟩ : Ent)
            have hS147 := hS139.trans hF144 (by simp)
            refine WD.semU 6 (Instr.mapUpdate 71 (.map (some b)) (.agg #[.int .i64 f.proto, .int .u32 f.src, .int .i64 f.sport, .int .u32 f.dst, .int .i64 f.dport]) (.agg #[.int .i64 xv10.flow.proto, .int .u32 xv10.flow.src, .int .i64 xv10.flow.sport, .int .u32 xv10.flow.dst, .int .i64 xv10.flow.dport, .int .u32 xv10.dip, .int .i64 xv10.epoch, .bool xv10.trusted, .bool true, .int .i64 now])) (by kernel_rfl) (by kernel_rfl) hr143 hS147 ?_
            refine WD.done (by kernel_rfl) ?_
            refine QX.then_normal (hK135 _ _ ?_)
            refine WC.seq (fun K148 hK149 => ?_)
            refine WC.region ?_
            refine WL.runs 1 [(8, .bool true)] (fun _ => by kernel_rfl) ?_
            refine WL.done rfl ?_
            refine QX.then_normal (hK149 _ _ ?_)
            refine WC.ret ?_
            refine (hret _ _ _ rfl ?_).1
            clear hN hret hret' hK149 hK135 hK63 hK61 hK54 hK52 hK46 hK43 hK41 hK30 hK28 hK9 hK2
            have h_ : touchT T f flags now = ((⟨(putL T.m f (⟨xv10.flow, xv10.dip, xv10.epoch, xv10.trusted, true, now⟩ : Ent)), T.th, T.tm, T.uh, T.um⟩ : Tb), true) := by
              (first | contradiction | skip)
              all_goals unfold touchT
              all_goals rw [(look_some hxv11 (by rw [hbv13]; simpa using t31b))]
              all_goals simp [t31, t31b, t37, t37b, t44, t44b, t55, t55b, t64, t64b]
              all_goals (try (intro hq_; exfalso; omega))
            rw [h_]
            exact ⟨rfl, hC145.fr, hpb, hC145.get 0 rfl, _, _, hC145.get 1 rfl, hm146⟩
        · -- (Go.bits .and .i64 0 5) ≠ 0: false
          have t55 : (Go.bits .and .i64 0 5) = 0 := by simpa using t55b
          refine WC.cond_false rfl ?_
          refine WC.seq (fun K150 hK151 => ?_)
          refine WC.region ?_
          refine WL.runs 4 [(34, .bool ((Go.bits .and .i64 0 2) != 0)), (37, .bool ((Go.bits .and .i64 0 2) != 0)), (36, .int .i64 (Go.bits .and .i64 0 2)), (35, .int .i64 0)] (fun _ => by kernel_rfl) ?_
          refine WL.done rfl ?_
          refine QX.then_normal (hK151 _ _ ?_)
          refine WC.test_at 34 ((Go.bits .and .i64 0 2) != 0) rfl (fun t152b => ?_) (fun t152b => ?_)
          · -- (Go.bits .and .i64 0 2) ≠ 0: true
            have t152 : (Go.bits .and .i64 0 2) ≠ 0 := by simpa using t152b
            refine WC.cond_true rfl ?_
            refine WC.region ?_
            refine WL.runs 1 [(38, .pointer (some ⟨g18, 8, none⟩))] (fun _ => by kernel_rfl) ?_
            refine WL.storeM (c' := #[.int .i64 xv10.flow.proto, .int .u32 xv10.flow.src, .int .i64 xv10.flow.sport, .int .u32 xv10.flow.dst, .int .i64 xv10.flow.dport, .int .u32 xv10.dip, .int .i64 xv10.epoch, .bool xv10.trusted, .bool false, .int .i64 now]) hC50 3 4 g18 8 (.bool false) (by kernel_rfl) rfl (by kernel_rfl) (fun w153 hF155 hC156 => ?_)
            refine WL.done rfl ?_
            refine QX.block_normal ?_
            refine QX.then_normal (hK52 _ _ ?_)
            refine WC.seq (fun K157 hK158 => ?_)
            refine WC.seq (fun K159 hK160 => ?_)
            refine WC.region ?_
            refine WL.runs 1 [(39, .pointer (some ⟨g18, 7, none⟩))] (fun _ => by kernel_rfl) ?_
            refine WL.load 4 (.pointer (some ⟨g18, 7, none⟩)) (.bool xv10.trusted) 40 (by kernel_rfl) (run_ld (hC156.get 3 rfl) rfl) ?_
            refine WL.runs 2 [(42, .bool !xv10.trusted), (41, .bool !xv10.trusted)] (fun _ => by kernel_rfl) ?_
            refine WL.test_at 42 (!xv10.trusted) rfl (fun t161b => ?_) (fun t161b => ?_)
            · -- !xv10.trusted = true: true
              have t161 : xv10.trusted = false := by first | (simpa only [Bool.not_eq_true', Bool.not_eq_false'] using t161b) | simpa using t161b
              refine WL.runs 5 [(47, .bool ((Go.bits .and .i64 0 2) == 0)), (46, .bool ((Go.bits .and .i64 0 2) == 0)), (45, .bool ((Go.bits .and .i64 0 2) == 0)), (44, .int .i64 (Go.bits .and .i64 0 2)), (43, .int .i64 0)] (fun _ => by kernel_rfl) ?_
              refine WL.test_at 47 ((Go.bits .and .i64 0 2) == 0) rfl (fun t162b => ?_) (fun t162b => ?_)
              · -- (Go.bits .and .i64 0 2) = 0: true
                have t162 : (Go.bits .and .i64 0 2) = 0 := by simpa using t162b
                refine WL.runs 3 [(50, .pointer (some ⟨p, 1, none⟩)), (49, .pointer (some ⟨p, 0, none⟩)), (48, .pointer (some ⟨p, 0, none⟩))] (fun _ => by kernel_rfl) ?_
                refine WL.call rfl rfl rfl rfl rfl (by kernel_rfl) (room_ct p 1 T.th T.tm w153 (by rw [cell_blk (hC156.get 0 rfl)]; rfl) (by rw [cell_blk (hC156.get 0 rfl)]; rfl)) ?_
                rintro _ w164 ⟨rfl, hF163⟩
                refine ⟨_, rfl, ?_⟩
                have hC165 := hC156.call hF163
                refine WL.runs 1 [(52, .bool (decide (T.th < T.tm)))] (fun _ => by kernel_rfl) ?_
                refine WL.done rfl ?_
                refine QX.then_normal (hK160 _ _ ?_)
                refine WC.test_at 52 (decide (T.th < T.tm)) rfl (fun t166b => ?_) (fun t166b => ?_)
                · -- T.th < T.tm: true
                  have t166 : T.th < T.tm := by have q_ := of_decide_eq_true t166b; omega
                  refine WC.cond_true rfl ?_
                  refine WC.seq (fun K167 hK168 => ?_)
                  refine WC.region ?_
                  refine WL.runs 1 [(53, .pointer (some ⟨g18, 7, none⟩))] (fun _ => by kernel_rfl) ?_
                  refine WL.storeM (c' := #[.int .i64 xv10.flow.proto, .int .u32 xv10.flow.src, .int .i64 xv10.flow.sport, .int .u32 xv10.flow.dst, .int .i64 xv10.flow.dport, .int .u32 xv10.dip, .int .i64 xv10.epoch, .bool true, .bool false, .int .i64 now]) hC165 3 4 g18 7 (.bool true) (by kernel_rfl) rfl (by kernel_rfl) (fun w169 hF171 hC172 => ?_)
                  refine WL.done rfl ?_
                  refine QX.then_normal (hK168 _ _ ?_)
                  refine WC.seq (fun K173 hK174 => ?_)
                  refine WC.region ?_
                  refine WL.runs 4 [(57, .pointer (some ⟨p, 3, none⟩)), (56, .pointer (some ⟨p, 3, none⟩)), (55, .pointer (some ⟨p, 0, none⟩)), (54, .pointer (some ⟨p, 0, none⟩))] (fun _ => by kernel_rfl) ?_
                  refine WL.load 3 (.pointer (some ⟨p, 3, none⟩)) (.int .i64 T.uh) 58 (by kernel_rfl) (run_ld (hC172.get 0 rfl) rfl) ?_
                  refine WL.runs 1 [(59, .int .i64 (IntKind.i64.wrap (T.uh - 1)))] (fun _ => by kernel_rfl) ?_
                  refine WL.recast (show (.int .i64 (IntKind.i64.wrap (T.uh - 1)) : Value) = .int .i64 (T.uh - 1) from by rw [wrap_in_i64 (T.uh - 1) (by omega) (by omega)]) ?_
                  refine WL.runs 3 [(62, .pointer (some ⟨p, 3, none⟩)), (61, .pointer (some ⟨p, 3, none⟩)), (60, .pointer (some ⟨p, 0, none⟩))] (fun _ => by kernel_rfl) ?_
                  refine WL.storeM (c' := #[.map (some b), .int .i64 T.th, .int .i64 T.tm, .int .i64 (T.uh - 1), .int .i64 T.um]) hC172 0 3 p 3 (.int .i64 (T.uh - 1)) (by kernel_rfl) rfl (by kernel_rfl) (fun w175 hF177 hC178 => ?_)
                  refine WL.done rfl ?_
                  refine QX.then_normal (hK174 _ _ ?_)
                  refine WC.region ?_
                  refine WL.runs 4 [(66, .pointer (some ⟨p, 1, none⟩)), (65, .pointer (some ⟨p, 1, none⟩)), (64, .pointer (some ⟨p, 0, none⟩)), (63, .pointer (some ⟨p, 0, none⟩))] (fun _ => by kernel_rfl) ?_
                  refine WL.load 3 (.pointer (some ⟨p, 1, none⟩)) (.int .i64 T.th) 67 (by kernel_rfl) (run_ld (hC178.get 0 rfl) rfl) ?_
                  refine WL.runs 1 [(68, .int .i64 (IntKind.i64.wrap (T.th + 1)))] (fun _ => by kernel_rfl) ?_
                  refine WL.recast (show (.int .i64 (IntKind.i64.wrap (T.th + 1)) : Value) = .int .i64 (T.th + 1) from by rw [wrap_in_i64 (T.th + 1) (by omega) (by omega)]) ?_
                  refine WL.runs 3 [(71, .pointer (some ⟨p, 1, none⟩)), (70, .pointer (some ⟨p, 1, none⟩)), (69, .pointer (some ⟨p, 0, none⟩))] (fun _ => by kernel_rfl) ?_
                  refine WL.storeM (c' := #[.map (some b), .int .i64 (T.th + 1), .int .i64 T.tm, .int .i64 (T.uh - 1), .int .i64 T.um]) hC178 0 3 p 1 (.int .i64 (T.th + 1)) (by kernel_rfl) rfl (by kernel_rfl) (fun w179 hF181 hC182 => ?_)
                  refine WL.done rfl ?_
                  refine QX.then_normal (hK158 _ _ ?_)
                  refine WC.seq (fun K183 hK184 => ?_)
                  refine WC.drawC hC182 [b] (by kernel_rfl) (fun w185 hF186 hC187 hS188 => ?_)
                  refine WD.pure (NoPanic.then hN) 0 72 (.pointer (some ⟨p, 0, none⟩)) (by kernel_rfl) (fun _ => by kernel_rfl) hS188 ?_
                  refine WD.pure (NoPanic.then hN) 1 73 (.pointer (some ⟨p, 0, none⟩)) (by kernel_rfl) (fun _ => by kernel_rfl) hS188 ?_
                  refine WD.pure (NoPanic.then hN) 2 74 (.pointer (some ⟨p, 0, none⟩)) (by kernel_rfl) (fun _ => by kernel_rfl) hS188 ?_
                  refine WD.load (NoPanic.then hN) 3 71 (.pointer (some ⟨p, 0, none⟩)) (.map (some b)) 75 (by kernel_rfl) (by kernel_rfl) (fun _ hS_ => run_ld (Fr.has hS_ (hC187.get 0 rfl) (by simpa using hC187.ne 0 1 rfl rfl (by decide))) rfl) hS188 ?_
                  refine WD.load (NoPanic.then hN) 4 32 (.pointer (some ⟨g3, 0, none⟩)) (.agg #[.int .i64 f.proto, .int .u32 f.src, .int .i64 f.sport, .int .u32 f.dst, .int .i64 f.dport]) 76 (by kernel_rfl) (by kernel_rfl) (fun _ hS_ => run_ld (Fr.has hS_ (hC187.get 2 rfl) (by simpa using hC187.ne 2 1 rfl rfl (by decide))) rfl) hS188 ?_
                  refine WD.sem 5 (Instr.loadAt 34 (.pointer (some ⟨g18, 0, none⟩))) 77 (.agg #[.int .i64 xv10.flow.proto, .int .u32 xv10.flow.src, .int .i64 xv10.flow.sport, .int .u32 xv10.flow.dst, .int .i64 xv10.flow.dport, .int .u32 xv10.dip, .int .i64 xv10.epoch, .bool true, .bool false, .int .i64 now]) (by kernel_rfl) (by kernel_rfl) (run_ld (hC187.get 3 rfl) rfl) hS188 ?_
                  obtain ⟨w189, es190, cl191, hr192, hF193, hC194, hm195⟩ := putM_run (P := Try.prog) (ek := encF) (ev := encE) hC187 1 rfl (show Try.prog.underlying 71 = some (.map 32 34) from by kernel_rfl) keyF hm_ f (⟨xv10.flow, xv10.dip, xv10.epoch, true, false, now⟩ : Ent)
                  have hS196 := hS188.trans hF193 (by simp)
                  refine WD.semU 6 (Instr.mapUpdate 71 (.map (some b)) (.agg #[.int .i64 f.proto, .int .u32 f.src, .int .i64 f.sport, .int .u32 f.dst, .int .i64 f.dport]) (.agg #[.int .i64 xv10.flow.proto, .int .u32 xv10.flow.src, .int .i64 xv10.flow.sport, .int .u32 xv10.flow.dst, .int .i64 xv10.flow.dport, .int .u32 xv10.dip, .int .i64 xv10.epoch, .bool true, .bool false, .int .i64 now])) (by kernel_rfl) (by kernel_rfl) hr192 hS196 ?_
                  refine WD.done (by kernel_rfl) ?_
                  refine QX.then_normal (hK184 _ _ ?_)
                  refine WC.seq (fun K197 hK198 => ?_)
                  refine WC.region ?_
                  refine WL.runs 1 [(8, .bool true)] (fun _ => by kernel_rfl) ?_
                  refine WL.done rfl ?_
                  refine QX.then_normal (hK198 _ _ ?_)
                  refine WC.ret ?_
                  refine (hret _ _ _ rfl ?_).1
                  clear hN hret hret' hK198 hK184 hK174 hK168 hK160 hK158 hK151 hK54 hK52 hK46 hK43 hK41 hK30 hK28 hK9 hK2
                  have h_ : touchT T f flags now = ((⟨(putL T.m f (⟨xv10.flow, xv10.dip, xv10.epoch, true, false, now⟩ : Ent)), T.th + 1, T.tm, T.uh - 1, T.um⟩ : Tb), true) := by
                    (first | contradiction | skip)
                    all_goals unfold touchT
                    all_goals rw [(look_some hxv11 (by rw [hbv13]; simpa using t31b))]
                    all_goals simp [t152, t152b, t161, t161b, t162, t162b, t166, t166b, t31, t31b, t37, t37b, t44, t44b, t55, t55b]
                    all_goals (try (intro hq_; exfalso; omega))
                  rw [h_]
                  exact ⟨rfl, hC194.fr, hpb, hC194.get 0 rfl, _, _, hC194.get 1 rfl, hm195⟩
                · -- T.th < T.tm: false
                  have t166 : T.tm ≤ T.th := by have q_ := of_decide_eq_false t166b; omega
                  refine WC.cond_false rfl ?_
                  refine WC.skip ?_
                  refine QX.then_normal (hK158 _ _ ?_)
                  refine WC.seq (fun K199 hK200 => ?_)
                  refine WC.drawC hC165 [b] (by kernel_rfl) (fun w201 hF202 hC203 hS204 => ?_)
                  refine WD.pure (NoPanic.then hN) 0 72 (.pointer (some ⟨p, 0, none⟩)) (by kernel_rfl) (fun _ => by kernel_rfl) hS204 ?_
                  refine WD.pure (NoPanic.then hN) 1 73 (.pointer (some ⟨p, 0, none⟩)) (by kernel_rfl) (fun _ => by kernel_rfl) hS204 ?_
                  refine WD.pure (NoPanic.then hN) 2 74 (.pointer (some ⟨p, 0, none⟩)) (by kernel_rfl) (fun _ => by kernel_rfl) hS204 ?_
                  refine WD.load (NoPanic.then hN) 3 71 (.pointer (some ⟨p, 0, none⟩)) (.map (some b)) 75 (by kernel_rfl) (by kernel_rfl) (fun _ hS_ => run_ld (Fr.has hS_ (hC203.get 0 rfl) (by simpa using hC203.ne 0 1 rfl rfl (by decide))) rfl) hS204 ?_
                  refine WD.load (NoPanic.then hN) 4 32 (.pointer (some ⟨g3, 0, none⟩)) (.agg #[.int .i64 f.proto, .int .u32 f.src, .int .i64 f.sport, .int .u32 f.dst, .int .i64 f.dport]) 76 (by kernel_rfl) (by kernel_rfl) (fun _ hS_ => run_ld (Fr.has hS_ (hC203.get 2 rfl) (by simpa using hC203.ne 2 1 rfl rfl (by decide))) rfl) hS204 ?_
                  refine WD.sem 5 (Instr.loadAt 34 (.pointer (some ⟨g18, 0, none⟩))) 77 (.agg #[.int .i64 xv10.flow.proto, .int .u32 xv10.flow.src, .int .i64 xv10.flow.sport, .int .u32 xv10.flow.dst, .int .i64 xv10.flow.dport, .int .u32 xv10.dip, .int .i64 xv10.epoch, .bool xv10.trusted, .bool false, .int .i64 now]) (by kernel_rfl) (by kernel_rfl) (run_ld (hC203.get 3 rfl) rfl) hS204 ?_
                  obtain ⟨w205, es206, cl207, hr208, hF209, hC210, hm211⟩ := putM_run (P := Try.prog) (ek := encF) (ev := encE) hC203 1 rfl (show Try.prog.underlying 71 = some (.map 32 34) from by kernel_rfl) keyF hm_ f (⟨xv10.flow, xv10.dip, xv10.epoch, xv10.trusted, false, now⟩ : Ent)
                  have hS212 := hS204.trans hF209 (by simp)
                  refine WD.semU 6 (Instr.mapUpdate 71 (.map (some b)) (.agg #[.int .i64 f.proto, .int .u32 f.src, .int .i64 f.sport, .int .u32 f.dst, .int .i64 f.dport]) (.agg #[.int .i64 xv10.flow.proto, .int .u32 xv10.flow.src, .int .i64 xv10.flow.sport, .int .u32 xv10.flow.dst, .int .i64 xv10.flow.dport, .int .u32 xv10.dip, .int .i64 xv10.epoch, .bool xv10.trusted, .bool false, .int .i64 now])) (by kernel_rfl) (by kernel_rfl) hr208 hS212 ?_
                  refine WD.done (by kernel_rfl) ?_
                  refine QX.then_normal (hK200 _ _ ?_)
                  refine WC.seq (fun K213 hK214 => ?_)
                  refine WC.region ?_
                  refine WL.runs 1 [(8, .bool true)] (fun _ => by kernel_rfl) ?_
                  refine WL.done rfl ?_
                  refine QX.then_normal (hK214 _ _ ?_)
                  refine WC.ret ?_
                  refine (hret _ _ _ rfl ?_).1
                  clear hN hret hret' hK214 hK200 hK160 hK158 hK151 hK54 hK52 hK46 hK43 hK41 hK30 hK28 hK9 hK2
                  have h_ : touchT T f flags now = ((⟨(putL T.m f (⟨xv10.flow, xv10.dip, xv10.epoch, xv10.trusted, false, now⟩ : Ent)), T.th, T.tm, T.uh, T.um⟩ : Tb), true) := by
                    (first | contradiction | skip)
                    all_goals unfold touchT
                    all_goals rw [(look_some hxv11 (by rw [hbv13]; simpa using t31b))]
                    all_goals simp [t152, t152b, t161, t161b, t162, t162b, t166, t166b, t31, t31b, t37, t37b, t44, t44b, t55, t55b]
                    all_goals (try (intro hq_; exfalso; omega))
                  rw [h_]
                  exact ⟨rfl, hC210.fr, hpb, hC210.get 0 rfl, _, _, hC210.get 1 rfl, hm211⟩
              · -- (Go.bits .and .i64 0 2) = 0: false
                have t162 : ¬ ((Go.bits .and .i64 0 2) = 0) := by simpa using t162b
                refine WL.runs 5 [(52, .bool false), (51, undef), (50, undef), (49, undef), (48, undef)] (fun _ => by kernel_rfl) ?_
                refine WL.done rfl ?_
                refine QX.then_normal (hK160 _ _ ?_)
                refine WC.cond_false rfl ?_
                refine WC.skip ?_
                refine QX.then_normal (hK158 _ _ ?_)
                refine WC.seq (fun K215 hK216 => ?_)
                refine WC.drawC hC156 [b] (by kernel_rfl) (fun w217 hF218 hC219 hS220 => ?_)
                refine WD.pure (NoPanic.then hN) 0 72 (.pointer (some ⟨p, 0, none⟩)) (by kernel_rfl) (fun _ => by kernel_rfl) hS220 ?_
                refine WD.pure (NoPanic.then hN) 1 73 (.pointer (some ⟨p, 0, none⟩)) (by kernel_rfl) (fun _ => by kernel_rfl) hS220 ?_
                refine WD.pure (NoPanic.then hN) 2 74 (.pointer (some ⟨p, 0, none⟩)) (by kernel_rfl) (fun _ => by kernel_rfl) hS220 ?_
                refine WD.load (NoPanic.then hN) 3 71 (.pointer (some ⟨p, 0, none⟩)) (.map (some b)) 75 (by kernel_rfl) (by kernel_rfl) (fun _ hS_ => run_ld (Fr.has hS_ (hC219.get 0 rfl) (by simpa using hC219.ne 0 1 rfl rfl (by decide))) rfl) hS220 ?_
                refine WD.load (NoPanic.then hN) 4 32 (.pointer (some ⟨g3, 0, none⟩)) (.agg #[.int .i64 f.proto, .int .u32 f.src, .int .i64 f.sport, .int .u32 f.dst, .int .i64 f.dport]) 76 (by kernel_rfl) (by kernel_rfl) (fun _ hS_ => run_ld (Fr.has hS_ (hC219.get 2 rfl) (by simpa using hC219.ne 2 1 rfl rfl (by decide))) rfl) hS220 ?_
                refine WD.sem 5 (Instr.loadAt 34 (.pointer (some ⟨g18, 0, none⟩))) 77 (.agg #[.int .i64 xv10.flow.proto, .int .u32 xv10.flow.src, .int .i64 xv10.flow.sport, .int .u32 xv10.flow.dst, .int .i64 xv10.flow.dport, .int .u32 xv10.dip, .int .i64 xv10.epoch, .bool xv10.trusted, .bool false, .int .i64 now]) (by kernel_rfl) (by kernel_rfl) (run_ld (hC219.get 3 rfl) rfl) hS220 ?_
                obtain ⟨w221, es222, cl223, hr224, hF225, hC226, hm227⟩ := putM_run (P := Try.prog) (ek := encF) (ev := encE) hC219 1 rfl (show Try.prog.underlying 71 = some (.map 32 34) from by kernel_rfl) keyF hm_ f (⟨xv10.flow, xv10.dip, xv10.epoch, xv10.trusted, false, now⟩ : Ent)
                have hS228 := hS220.trans hF225 (by simp)
                refine WD.semU 6 (Instr.mapUpdate 71 (.map (some b)) (.agg #[.int .i64 f.proto, .int .u32 f.src, .int .i64 f.sport, .int .u32 f.dst, .int .i64 f.dport]) (.agg #[.int .i64 xv10.flow.proto, .int .u32 xv10.flow.src, .int .i64 xv10.flow.sport, .int .u32 xv10.flow.dst, .int .i64 xv10.flow.dport, .int .u32 xv10.dip, .int .i64 xv10.epoch, .bool xv10.trusted, .bool false, .int .i64 now])) (by kernel_rfl) (by kernel_rfl) hr224 hS228 ?_
                refine WD.done (by kernel_rfl) ?_
                refine QX.then_normal (hK216 _ _ ?_)
                refine WC.seq (fun K229 hK230 => ?_)
                refine WC.region ?_
                refine WL.runs 1 [(8, .bool true)] (fun _ => by kernel_rfl) ?_
                refine WL.done rfl ?_
                refine QX.then_normal (hK230 _ _ ?_)
                refine WC.ret ?_
                refine (hret _ _ _ rfl ?_).1
                clear hN hret hret' hK230 hK216 hK160 hK158 hK151 hK54 hK52 hK46 hK43 hK41 hK30 hK28 hK9 hK2
                have h_ : touchT T f flags now = ((⟨(putL T.m f (⟨xv10.flow, xv10.dip, xv10.epoch, xv10.trusted, false, now⟩ : Ent)), T.th, T.tm, T.uh, T.um⟩ : Tb), true) := by
                  (first | contradiction | skip)
                  all_goals unfold touchT
                  all_goals rw [(look_some hxv11 (by rw [hbv13]; simpa using t31b))]
                  all_goals simp [t152, t152b, t161, t161b, t162, t162b, t31, t31b, t37, t37b, t44, t44b, t55, t55b]
                  all_goals (try (intro hq_; exfalso; omega))
                rw [h_]
                exact ⟨rfl, hC226.fr, hpb, hC226.get 0 rfl, _, _, hC226.get 1 rfl, hm227⟩
            · -- !xv10.trusted = true: false
              have t161 : xv10.trusted = true := by first | (simpa only [Bool.not_eq_true', Bool.not_eq_false'] using t161b) | simpa using t161b
              refine WL.runs 10 [(52, .bool false), (51, undef), (50, undef), (49, undef), (48, undef), (47, .bool false), (46, .bool false), (45, undef), (44, undef), (43, undef)] (fun _ => by kernel_rfl) ?_
              refine WL.done rfl ?_
              refine QX.then_normal (hK160 _ _ ?_)
              refine WC.cond_false rfl ?_
              refine WC.skip ?_
              refine QX.then_normal (hK158 _ _ ?_)
              refine WC.seq (fun K231 hK232 => ?_)
              refine WC.drawC hC156 [b] (by kernel_rfl) (fun w233 hF234 hC235 hS236 => ?_)
              refine WD.pure (NoPanic.then hN) 0 72 (.pointer (some ⟨p, 0, none⟩)) (by kernel_rfl) (fun _ => by kernel_rfl) hS236 ?_
              refine WD.pure (NoPanic.then hN) 1 73 (.pointer (some ⟨p, 0, none⟩)) (by kernel_rfl) (fun _ => by kernel_rfl) hS236 ?_
              refine WD.pure (NoPanic.then hN) 2 74 (.pointer (some ⟨p, 0, none⟩)) (by kernel_rfl) (fun _ => by kernel_rfl) hS236 ?_
              refine WD.load (NoPanic.then hN) 3 71 (.pointer (some ⟨p, 0, none⟩)) (.map (some b)) 75 (by kernel_rfl) (by kernel_rfl) (fun _ hS_ => run_ld (Fr.has hS_ (hC235.get 0 rfl) (by simpa using hC235.ne 0 1 rfl rfl (by decide))) rfl) hS236 ?_
              refine WD.load (NoPanic.then hN) 4 32 (.pointer (some ⟨g3, 0, none⟩)) (.agg #[.int .i64 f.proto, .int .u32 f.src, .int .i64 f.sport, .int .u32 f.dst, .int .i64 f.dport]) 76 (by kernel_rfl) (by kernel_rfl) (fun _ hS_ => run_ld (Fr.has hS_ (hC235.get 2 rfl) (by simpa using hC235.ne 2 1 rfl rfl (by decide))) rfl) hS236 ?_
              refine WD.sem 5 (Instr.loadAt 34 (.pointer (some ⟨g18, 0, none⟩))) 77 (.agg #[.int .i64 xv10.flow.proto, .int .u32 xv10.flow.src, .int .i64 xv10.flow.sport, .int .u32 xv10.flow.dst, .int .i64 xv10.flow.dport, .int .u32 xv10.dip, .int .i64 xv10.epoch, .bool xv10.trusted, .bool false, .int .i64 now]) (by kernel_rfl) (by kernel_rfl) (run_ld (hC235.get 3 rfl) rfl) hS236 ?_
              obtain ⟨w237, es238, cl239, hr240, hF241, hC242, hm243⟩ := putM_run (P := Try.prog) (ek := encF) (ev := encE) hC235 1 rfl (show Try.prog.underlying 71 = some (.map 32 34) from by kernel_rfl) keyF hm_ f (⟨xv10.flow, xv10.dip, xv10.epoch, xv10.trusted, false, now⟩ : Ent)
              have hS244 := hS236.trans hF241 (by simp)
              refine WD.semU 6 (Instr.mapUpdate 71 (.map (some b)) (.agg #[.int .i64 f.proto, .int .u32 f.src, .int .i64 f.sport, .int .u32 f.dst, .int .i64 f.dport]) (.agg #[.int .i64 xv10.flow.proto, .int .u32 xv10.flow.src, .int .i64 xv10.flow.sport, .int .u32 xv10.flow.dst, .int .i64 xv10.flow.dport, .int .u32 xv10.dip, .int .i64 xv10.epoch, .bool xv10.trusted, .bool false, .int .i64 now])) (by kernel_rfl) (by kernel_rfl) hr240 hS244 ?_
              refine WD.done (by kernel_rfl) ?_
              refine QX.then_normal (hK232 _ _ ?_)
              refine WC.seq (fun K245 hK246 => ?_)
              refine WC.region ?_
              refine WL.runs 1 [(8, .bool true)] (fun _ => by kernel_rfl) ?_
              refine WL.done rfl ?_
              refine QX.then_normal (hK246 _ _ ?_)
              refine WC.ret ?_
              refine (hret _ _ _ rfl ?_).1
              clear hN hret hret' hK246 hK232 hK160 hK158 hK151 hK54 hK52 hK46 hK43 hK41 hK30 hK28 hK9 hK2
              have h_ : touchT T f flags now = ((⟨(putL T.m f (⟨xv10.flow, xv10.dip, xv10.epoch, xv10.trusted, false, now⟩ : Ent)), T.th, T.tm, T.uh, T.um⟩ : Tb), true) := by
                (first | contradiction | skip)
                all_goals unfold touchT
                all_goals rw [(look_some hxv11 (by rw [hbv13]; simpa using t31b))]
                all_goals simp [t152, t152b, t161, t161b, t31, t31b, t37, t37b, t44, t44b, t55, t55b]
                all_goals (try (intro hq_; exfalso; omega))
              rw [h_]
              exact ⟨rfl, hC242.fr, hpb, hC242.get 0 rfl, _, _, hC242.get 1 rfl, hm243⟩
          · -- (Go.bits .and .i64 0 2) ≠ 0: false
            have t152 : (Go.bits .and .i64 0 2) = 0 := by simpa using t152b
            refine WC.cond_false rfl ?_
            refine WC.skip ?_
            refine QX.block_normal ?_
            refine QX.then_normal (hK52 _ _ ?_)
            refine WC.seq (fun K247 hK248 => ?_)
            refine WC.seq (fun K249 hK250 => ?_)
            refine WC.region ?_
            refine WL.runs 1 [(39, .pointer (some ⟨g18, 7, none⟩))] (fun _ => by kernel_rfl) ?_
            refine WL.load 4 (.pointer (some ⟨g18, 7, none⟩)) (.bool xv10.trusted) 40 (by kernel_rfl) (run_ld (hC50.get 3 rfl) rfl) ?_
            refine WL.runs 2 [(42, .bool !xv10.trusted), (41, .bool !xv10.trusted)] (fun _ => by kernel_rfl) ?_
            refine WL.test_at 42 (!xv10.trusted) rfl (fun t251b => ?_) (fun t251b => ?_)
            · -- !xv10.trusted = true: true
              have t251 : xv10.trusted = false := by first | (simpa only [Bool.not_eq_true', Bool.not_eq_false'] using t251b) | simpa using t251b
              refine WL.runs 5 [(47, .bool ((Go.bits .and .i64 0 2) == 0)), (46, .bool ((Go.bits .and .i64 0 2) == 0)), (45, .bool ((Go.bits .and .i64 0 2) == 0)), (44, .int .i64 (Go.bits .and .i64 0 2)), (43, .int .i64 0)] (fun _ => by kernel_rfl) ?_
              refine WL.test_at 47 ((Go.bits .and .i64 0 2) == 0) rfl (fun t252b => ?_) (fun t252b => ?_)
              · -- (Go.bits .and .i64 0 2) = 0: true
                have t252 : (Go.bits .and .i64 0 2) = 0 := by simpa using t252b
                refine WL.runs 3 [(50, .pointer (some ⟨p, 1, none⟩)), (49, .pointer (some ⟨p, 0, none⟩)), (48, .pointer (some ⟨p, 0, none⟩))] (fun _ => by kernel_rfl) ?_
                refine WL.call rfl rfl rfl rfl rfl (by kernel_rfl) (room_ct p 1 T.th T.tm w47 (by rw [cell_blk (hC50.get 0 rfl)]; rfl) (by rw [cell_blk (hC50.get 0 rfl)]; rfl)) ?_
                rintro _ w254 ⟨rfl, hF253⟩
                refine ⟨_, rfl, ?_⟩
                have hC255 := hC50.call hF253
                refine WL.runs 1 [(52, .bool (decide (T.th < T.tm)))] (fun _ => by kernel_rfl) ?_
                refine WL.done rfl ?_
                refine QX.then_normal (hK250 _ _ ?_)
                refine WC.test_at 52 (decide (T.th < T.tm)) rfl (fun t256b => ?_) (fun t256b => ?_)
                · -- T.th < T.tm: true
                  have t256 : T.th < T.tm := by have q_ := of_decide_eq_true t256b; omega
                  refine WC.cond_true rfl ?_
                  refine WC.seq (fun K257 hK258 => ?_)
                  refine WC.region ?_
                  refine WL.runs 1 [(53, .pointer (some ⟨g18, 7, none⟩))] (fun _ => by kernel_rfl) ?_
                  refine WL.storeM (c' := #[.int .i64 xv10.flow.proto, .int .u32 xv10.flow.src, .int .i64 xv10.flow.sport, .int .u32 xv10.flow.dst, .int .i64 xv10.flow.dport, .int .u32 xv10.dip, .int .i64 xv10.epoch, .bool true, .bool xv10.closing, .int .i64 now]) hC255 3 4 g18 7 (.bool true) (by kernel_rfl) rfl (by kernel_rfl) (fun w259 hF261 hC262 => ?_)
                  refine WL.done rfl ?_
                  refine QX.then_normal (hK258 _ _ ?_)
                  refine WC.seq (fun K263 hK264 => ?_)
                  refine WC.region ?_
                  refine WL.runs 4 [(57, .pointer (some ⟨p, 3, none⟩)), (56, .pointer (some ⟨p, 3, none⟩)), (55, .pointer (some ⟨p, 0, none⟩)), (54, .pointer (some ⟨p, 0, none⟩))] (fun _ => by kernel_rfl) ?_
                  refine WL.load 3 (.pointer (some ⟨p, 3, none⟩)) (.int .i64 T.uh) 58 (by kernel_rfl) (run_ld (hC262.get 0 rfl) rfl) ?_
                  refine WL.runs 1 [(59, .int .i64 (IntKind.i64.wrap (T.uh - 1)))] (fun _ => by kernel_rfl) ?_
                  refine WL.recast (show (.int .i64 (IntKind.i64.wrap (T.uh - 1)) : Value) = .int .i64 (T.uh - 1) from by rw [wrap_in_i64 (T.uh - 1) (by omega) (by omega)]) ?_
                  refine WL.runs 3 [(62, .pointer (some ⟨p, 3, none⟩)), (61, .pointer (some ⟨p, 3, none⟩)), (60, .pointer (some ⟨p, 0, none⟩))] (fun _ => by kernel_rfl) ?_
                  refine WL.storeM (c' := #[.map (some b), .int .i64 T.th, .int .i64 T.tm, .int .i64 (T.uh - 1), .int .i64 T.um]) hC262 0 3 p 3 (.int .i64 (T.uh - 1)) (by kernel_rfl) rfl (by kernel_rfl) (fun w265 hF267 hC268 => ?_)
                  refine WL.done rfl ?_
                  refine QX.then_normal (hK264 _ _ ?_)
                  refine WC.region ?_
                  refine WL.runs 4 [(66, .pointer (some ⟨p, 1, none⟩)), (65, .pointer (some ⟨p, 1, none⟩)), (64, .pointer (some ⟨p, 0, none⟩)), (63, .pointer (some ⟨p, 0, none⟩))] (fun _ => by kernel_rfl) ?_
                  refine WL.load 3 (.pointer (some ⟨p, 1, none⟩)) (.int .i64 T.th) 67 (by kernel_rfl) (run_ld (hC268.get 0 rfl) rfl) ?_
                  refine WL.runs 1 [(68, .int .i64 (IntKind.i64.wrap (T.th + 1)))] (fun _ => by kernel_rfl) ?_
                  refine WL.recast (show (.int .i64 (IntKind.i64.wrap (T.th + 1)) : Value) = .int .i64 (T.th + 1) from by rw [wrap_in_i64 (T.th + 1) (by omega) (by omega)]) ?_
                  refine WL.runs 3 [(71, .pointer (some ⟨p, 1, none⟩)), (70, .pointer (some ⟨p, 1, none⟩)), (69, .pointer (some ⟨p, 0, none⟩))] (fun _ => by kernel_rfl) ?_
                  refine WL.storeM (c' := #[.map (some b), .int .i64 (T.th + 1), .int .i64 T.tm, .int .i64 (T.uh - 1), .int .i64 T.um]) hC268 0 3 p 1 (.int .i64 (T.th + 1)) (by kernel_rfl) rfl (by kernel_rfl) (fun w269 hF271 hC272 => ?_)
                  refine WL.done rfl ?_
                  refine QX.then_normal (hK248 _ _ ?_)
                  refine WC.seq (fun K273 hK274 => ?_)
                  refine WC.drawC hC272 [b] (by kernel_rfl) (fun w275 hF276 hC277 hS278 => ?_)
                  refine WD.pure (NoPanic.then hN) 0 72 (.pointer (some ⟨p, 0, none⟩)) (by kernel_rfl) (fun _ => by kernel_rfl) hS278 ?_
                  refine WD.pure (NoPanic.then hN) 1 73 (.pointer (some ⟨p, 0, none⟩)) (by kernel_rfl) (fun _ => by kernel_rfl) hS278 ?_
                  refine WD.pure (NoPanic.then hN) 2 74 (.pointer (some ⟨p, 0, none⟩)) (by kernel_rfl) (fun _ => by kernel_rfl) hS278 ?_
                  refine WD.load (NoPanic.then hN) 3 71 (.pointer (some ⟨p, 0, none⟩)) (.map (some b)) 75 (by kernel_rfl) (by kernel_rfl) (fun _ hS_ => run_ld (Fr.has hS_ (hC277.get 0 rfl) (by simpa using hC277.ne 0 1 rfl rfl (by decide))) rfl) hS278 ?_
                  refine WD.load (NoPanic.then hN) 4 32 (.pointer (some ⟨g3, 0, none⟩)) (.agg #[.int .i64 f.proto, .int .u32 f.src, .int .i64 f.sport, .int .u32 f.dst, .int .i64 f.dport]) 76 (by kernel_rfl) (by kernel_rfl) (fun _ hS_ => run_ld (Fr.has hS_ (hC277.get 2 rfl) (by simpa using hC277.ne 2 1 rfl rfl (by decide))) rfl) hS278 ?_
                  refine WD.sem 5 (Instr.loadAt 34 (.pointer (some ⟨g18, 0, none⟩))) 77 (.agg #[.int .i64 xv10.flow.proto, .int .u32 xv10.flow.src, .int .i64 xv10.flow.sport, .int .u32 xv10.flow.dst, .int .i64 xv10.flow.dport, .int .u32 xv10.dip, .int .i64 xv10.epoch, .bool true, .bool xv10.closing, .int .i64 now]) (by kernel_rfl) (by kernel_rfl) (run_ld (hC277.get 3 rfl) rfl) hS278 ?_
                  obtain ⟨w279, es280, cl281, hr282, hF283, hC284, hm285⟩ := putM_run (P := Try.prog) (ek := encF) (ev := encE) hC277 1 rfl (show Try.prog.underlying 71 = some (.map 32 34) from by kernel_rfl) keyF hm_ f (⟨xv10.flow, xv10.dip, xv10.epoch, true, xv10.closing, now⟩ : Ent)
                  have hS286 := hS278.trans hF283 (by simp)
                  refine WD.semU 6 (Instr.mapUpdate 71 (.map (some b)) (.agg #[.int .i64 f.proto, .int .u32 f.src, .int .i64 f.sport, .int .u32 f.dst, .int .i64 f.dport]) (.agg #[.int .i64 xv10.flow.proto, .int .u32 xv10.flow.src, .int .i64 xv10.flow.sport, .int .u32 xv10.flow.dst, .int .i64 xv10.flow.dport, .int .u32 xv10.dip, .int .i64 xv10.epoch, .bool true, .bool xv10.closing, .int .i64 now])) (by kernel_rfl) (by kernel_rfl) hr282 hS286 ?_
                  refine WD.done (by kernel_rfl) ?_
                  refine QX.then_normal (hK274 _ _ ?_)
                  refine WC.seq (fun K287 hK288 => ?_)
                  refine WC.region ?_
                  refine WL.runs 1 [(8, .bool true)] (fun _ => by kernel_rfl) ?_
                  refine WL.done rfl ?_
                  refine QX.then_normal (hK288 _ _ ?_)
                  refine WC.ret ?_
                  refine (hret _ _ _ rfl ?_).1
                  clear hN hret hret' hK288 hK274 hK264 hK258 hK250 hK248 hK151 hK54 hK52 hK46 hK43 hK41 hK30 hK28 hK9 hK2
                  have h_ : touchT T f flags now = ((⟨(putL T.m f (⟨xv10.flow, xv10.dip, xv10.epoch, true, xv10.closing, now⟩ : Ent)), T.th + 1, T.tm, T.uh - 1, T.um⟩ : Tb), true) := by
                    (first | contradiction | skip)
                    all_goals unfold touchT
                    all_goals rw [(look_some hxv11 (by rw [hbv13]; simpa using t31b))]
                    all_goals simp [t152, t152b, t251, t251b, t252, t252b, t256, t256b, t31, t31b, t37, t37b, t44, t44b, t55, t55b]
                    all_goals (try (intro hq_; exfalso; omega))
                  rw [h_]
                  exact ⟨rfl, hC284.fr, hpb, hC284.get 0 rfl, _, _, hC284.get 1 rfl, hm285⟩
                · -- T.th < T.tm: false
                  have t256 : T.tm ≤ T.th := by have q_ := of_decide_eq_false t256b; omega
                  refine WC.cond_false rfl ?_
                  refine WC.skip ?_
                  refine QX.then_normal (hK248 _ _ ?_)
                  refine WC.seq (fun K289 hK290 => ?_)
                  refine WC.drawC hC255 [b] (by kernel_rfl) (fun w291 hF292 hC293 hS294 => ?_)
                  refine WD.pure (NoPanic.then hN) 0 72 (.pointer (some ⟨p, 0, none⟩)) (by kernel_rfl) (fun _ => by kernel_rfl) hS294 ?_
                  refine WD.pure (NoPanic.then hN) 1 73 (.pointer (some ⟨p, 0, none⟩)) (by kernel_rfl) (fun _ => by kernel_rfl) hS294 ?_
                  refine WD.pure (NoPanic.then hN) 2 74 (.pointer (some ⟨p, 0, none⟩)) (by kernel_rfl) (fun _ => by kernel_rfl) hS294 ?_
                  refine WD.load (NoPanic.then hN) 3 71 (.pointer (some ⟨p, 0, none⟩)) (.map (some b)) 75 (by kernel_rfl) (by kernel_rfl) (fun _ hS_ => run_ld (Fr.has hS_ (hC293.get 0 rfl) (by simpa using hC293.ne 0 1 rfl rfl (by decide))) rfl) hS294 ?_
                  refine WD.load (NoPanic.then hN) 4 32 (.pointer (some ⟨g3, 0, none⟩)) (.agg #[.int .i64 f.proto, .int .u32 f.src, .int .i64 f.sport, .int .u32 f.dst, .int .i64 f.dport]) 76 (by kernel_rfl) (by kernel_rfl) (fun _ hS_ => run_ld (Fr.has hS_ (hC293.get 2 rfl) (by simpa using hC293.ne 2 1 rfl rfl (by decide))) rfl) hS294 ?_
                  refine WD.sem 5 (Instr.loadAt 34 (.pointer (some ⟨g18, 0, none⟩))) 77 (.agg #[.int .i64 xv10.flow.proto, .int .u32 xv10.flow.src, .int .i64 xv10.flow.sport, .int .u32 xv10.flow.dst, .int .i64 xv10.flow.dport, .int .u32 xv10.dip, .int .i64 xv10.epoch, .bool xv10.trusted, .bool xv10.closing, .int .i64 now]) (by kernel_rfl) (by kernel_rfl) (run_ld (hC293.get 3 rfl) rfl) hS294 ?_
                  obtain ⟨w295, es296, cl297, hr298, hF299, hC300, hm301⟩ := putM_run (P := Try.prog) (ek := encF) (ev := encE) hC293 1 rfl (show Try.prog.underlying 71 = some (.map 32 34) from by kernel_rfl) keyF hm_ f (⟨xv10.flow, xv10.dip, xv10.epoch, xv10.trusted, xv10.closing, now⟩ : Ent)
                  have hS302 := hS294.trans hF299 (by simp)
                  refine WD.semU 6 (Instr.mapUpdate 71 (.map (some b)) (.agg #[.int .i64 f.proto, .int .u32 f.src, .int .i64 f.sport, .int .u32 f.dst, .int .i64 f.dport]) (.agg #[.int .i64 xv10.flow.proto, .int .u32 xv10.flow.src, .int .i64 xv10.flow.sport, .int .u32 xv10.flow.dst, .int .i64 xv10.flow.dport, .int .u32 xv10.dip, .int .i64 xv10.epoch, .bool xv10.trusted, .bool xv10.closing, .int .i64 now])) (by kernel_rfl) (by kernel_rfl) hr298 hS302 ?_
                  refine WD.done (by kernel_rfl) ?_
                  refine QX.then_normal (hK290 _ _ ?_)
                  refine WC.seq (fun K303 hK304 => ?_)
                  refine WC.region ?_
                  refine WL.runs 1 [(8, .bool true)] (fun _ => by kernel_rfl) ?_
                  refine WL.done rfl ?_
                  refine QX.then_normal (hK304 _ _ ?_)
                  refine WC.ret ?_
                  refine (hret _ _ _ rfl ?_).1
                  clear hN hret hret' hK304 hK290 hK250 hK248 hK151 hK54 hK52 hK46 hK43 hK41 hK30 hK28 hK9 hK2
                  have h_ : touchT T f flags now = ((⟨(putL T.m f (⟨xv10.flow, xv10.dip, xv10.epoch, xv10.trusted, xv10.closing, now⟩ : Ent)), T.th, T.tm, T.uh, T.um⟩ : Tb), true) := by
                    (first | contradiction | skip)
                    all_goals unfold touchT
                    all_goals rw [(look_some hxv11 (by rw [hbv13]; simpa using t31b))]
                    all_goals simp [t152, t152b, t251, t251b, t252, t252b, t256, t256b, t31, t31b, t37, t37b, t44, t44b, t55, t55b]
                    all_goals (try (intro hq_; exfalso; omega))
                  rw [h_]
                  exact ⟨rfl, hC300.fr, hpb, hC300.get 0 rfl, _, _, hC300.get 1 rfl, hm301⟩
              · -- (Go.bits .and .i64 0 2) = 0: false
                have t252 : ¬ ((Go.bits .and .i64 0 2) = 0) := by simpa using t252b
                refine WL.runs 5 [(52, .bool false), (51, undef), (50, undef), (49, undef), (48, undef)] (fun _ => by kernel_rfl) ?_
                refine WL.done rfl ?_
                refine QX.then_normal (hK250 _ _ ?_)
                refine WC.cond_false rfl ?_
                refine WC.skip ?_
                refine QX.then_normal (hK248 _ _ ?_)
                refine WC.seq (fun K305 hK306 => ?_)
                refine WC.drawC hC50 [b] (by kernel_rfl) (fun w307 hF308 hC309 hS310 => ?_)
                refine WD.pure (NoPanic.then hN) 0 72 (.pointer (some ⟨p, 0, none⟩)) (by kernel_rfl) (fun _ => by kernel_rfl) hS310 ?_
                refine WD.pure (NoPanic.then hN) 1 73 (.pointer (some ⟨p, 0, none⟩)) (by kernel_rfl) (fun _ => by kernel_rfl) hS310 ?_
                refine WD.pure (NoPanic.then hN) 2 74 (.pointer (some ⟨p, 0, none⟩)) (by kernel_rfl) (fun _ => by kernel_rfl) hS310 ?_
                refine WD.load (NoPanic.then hN) 3 71 (.pointer (some ⟨p, 0, none⟩)) (.map (some b)) 75 (by kernel_rfl) (by kernel_rfl) (fun _ hS_ => run_ld (Fr.has hS_ (hC309.get 0 rfl) (by simpa using hC309.ne 0 1 rfl rfl (by decide))) rfl) hS310 ?_
                refine WD.load (NoPanic.then hN) 4 32 (.pointer (some ⟨g3, 0, none⟩)) (.agg #[.int .i64 f.proto, .int .u32 f.src, .int .i64 f.sport, .int .u32 f.dst, .int .i64 f.dport]) 76 (by kernel_rfl) (by kernel_rfl) (fun _ hS_ => run_ld (Fr.has hS_ (hC309.get 2 rfl) (by simpa using hC309.ne 2 1 rfl rfl (by decide))) rfl) hS310 ?_
                refine WD.sem 5 (Instr.loadAt 34 (.pointer (some ⟨g18, 0, none⟩))) 77 (.agg #[.int .i64 xv10.flow.proto, .int .u32 xv10.flow.src, .int .i64 xv10.flow.sport, .int .u32 xv10.flow.dst, .int .i64 xv10.flow.dport, .int .u32 xv10.dip, .int .i64 xv10.epoch, .bool xv10.trusted, .bool xv10.closing, .int .i64 now]) (by kernel_rfl) (by kernel_rfl) (run_ld (hC309.get 3 rfl) rfl) hS310 ?_
                obtain ⟨w311, es312, cl313, hr314, hF315, hC316, hm317⟩ := putM_run (P := Try.prog) (ek := encF) (ev := encE) hC309 1 rfl (show Try.prog.underlying 71 = some (.map 32 34) from by kernel_rfl) keyF hm_ f (⟨xv10.flow, xv10.dip, xv10.epoch, xv10.trusted, xv10.closing, now⟩ : Ent)
                have hS318 := hS310.trans hF315 (by simp)
                refine WD.semU 6 (Instr.mapUpdate 71 (.map (some b)) (.agg #[.int .i64 f.proto, .int .u32 f.src, .int .i64 f.sport, .int .u32 f.dst, .int .i64 f.dport]) (.agg #[.int .i64 xv10.flow.proto, .int .u32 xv10.flow.src, .int .i64 xv10.flow.sport, .int .u32 xv10.flow.dst, .int .i64 xv10.flow.dport, .int .u32 xv10.dip, .int .i64 xv10.epoch, .bool xv10.trusted, .bool xv10.closing, .int .i64 now])) (by kernel_rfl) (by kernel_rfl) hr314 hS318 ?_
                refine WD.done (by kernel_rfl) ?_
                refine QX.then_normal (hK306 _ _ ?_)
                refine WC.seq (fun K319 hK320 => ?_)
                refine WC.region ?_
                refine WL.runs 1 [(8, .bool true)] (fun _ => by kernel_rfl) ?_
                refine WL.done rfl ?_
                refine QX.then_normal (hK320 _ _ ?_)
                refine WC.ret ?_
                refine (hret _ _ _ rfl ?_).1
                clear hN hret hret' hK320 hK306 hK250 hK248 hK151 hK54 hK52 hK46 hK43 hK41 hK30 hK28 hK9 hK2
                have h_ : touchT T f flags now = ((⟨(putL T.m f (⟨xv10.flow, xv10.dip, xv10.epoch, xv10.trusted, xv10.closing, now⟩ : Ent)), T.th, T.tm, T.uh, T.um⟩ : Tb), true) := by
                  (first | contradiction | skip)
                  all_goals unfold touchT
                  all_goals rw [(look_some hxv11 (by rw [hbv13]; simpa using t31b))]
                  all_goals simp [t152, t152b, t251, t251b, t252, t252b, t31, t31b, t37, t37b, t44, t44b, t55, t55b]
                  all_goals (try (intro hq_; exfalso; omega))
                rw [h_]
                exact ⟨rfl, hC316.fr, hpb, hC316.get 0 rfl, _, _, hC316.get 1 rfl, hm317⟩
            · -- !xv10.trusted = true: false
              have t251 : xv10.trusted = true := by first | (simpa only [Bool.not_eq_true', Bool.not_eq_false'] using t251b) | simpa using t251b
              refine WL.runs 10 [(52, .bool false), (51, undef), (50, undef), (49, undef), (48, undef), (47, .bool false), (46, .bool false), (45, undef), (44, undef), (43, undef)] (fun _ => by kernel_rfl) ?_
              refine WL.done rfl ?_
              refine QX.then_normal (hK250 _ _ ?_)
              refine WC.cond_false rfl ?_
              refine WC.skip ?_
              refine QX.then_normal (hK248 _ _ ?_)
              refine WC.seq (fun K321 hK322 => ?_)
              refine WC.drawC hC50 [b] (by kernel_rfl) (fun w323 hF324 hC325 hS326 => ?_)
              refine WD.pure (NoPanic.then hN) 0 72 (.pointer (some ⟨p, 0, none⟩)) (by kernel_rfl) (fun _ => by kernel_rfl) hS326 ?_
              refine WD.pure (NoPanic.then hN) 1 73 (.pointer (some ⟨p, 0, none⟩)) (by kernel_rfl) (fun _ => by kernel_rfl) hS326 ?_
              refine WD.pure (NoPanic.then hN) 2 74 (.pointer (some ⟨p, 0, none⟩)) (by kernel_rfl) (fun _ => by kernel_rfl) hS326 ?_
              refine WD.load (NoPanic.then hN) 3 71 (.pointer (some ⟨p, 0, none⟩)) (.map (some b)) 75 (by kernel_rfl) (by kernel_rfl) (fun _ hS_ => run_ld (Fr.has hS_ (hC325.get 0 rfl) (by simpa using hC325.ne 0 1 rfl rfl (by decide))) rfl) hS326 ?_
              refine WD.load (NoPanic.then hN) 4 32 (.pointer (some ⟨g3, 0, none⟩)) (.agg #[.int .i64 f.proto, .int .u32 f.src, .int .i64 f.sport, .int .u32 f.dst, .int .i64 f.dport]) 76 (by kernel_rfl) (by kernel_rfl) (fun _ hS_ => run_ld (Fr.has hS_ (hC325.get 2 rfl) (by simpa using hC325.ne 2 1 rfl rfl (by decide))) rfl) hS326 ?_
              refine WD.sem 5 (Instr.loadAt 34 (.pointer (some ⟨g18, 0, none⟩))) 77 (.agg #[.int .i64 xv10.flow.proto, .int .u32 xv10.flow.src, .int .i64 xv10.flow.sport, .int .u32 xv10.flow.dst, .int .i64 xv10.flow.dport, .int .u32 xv10.dip, .int .i64 xv10.epoch, .bool xv10.trusted, .bool xv10.closing, .int .i64 now]) (by kernel_rfl) (by kernel_rfl) (run_ld (hC325.get 3 rfl) rfl) hS326 ?_
              obtain ⟨w327, es328, cl329, hr330, hF331, hC332, hm333⟩ := putM_run (P := Try.prog) (ek := encF) (ev := encE) hC325 1 rfl (show Try.prog.underlying 71 = some (.map 32 34) from by kernel_rfl) keyF hm_ f (⟨xv10.flow, xv10.dip, xv10.epoch, xv10.trusted, xv10.closing, now⟩ : Ent)
              have hS334 := hS326.trans hF331 (by simp)
              refine WD.semU 6 (Instr.mapUpdate 71 (.map (some b)) (.agg #[.int .i64 f.proto, .int .u32 f.src, .int .i64 f.sport, .int .u32 f.dst, .int .i64 f.dport]) (.agg #[.int .i64 xv10.flow.proto, .int .u32 xv10.flow.src, .int .i64 xv10.flow.sport, .int .u32 xv10.flow.dst, .int .i64 xv10.flow.dport, .int .u32 xv10.dip, .int .i64 xv10.epoch, .bool xv10.trusted, .bool xv10.closing, .int .i64 now])) (by kernel_rfl) (by kernel_rfl) hr330 hS334 ?_
              refine WD.done (by kernel_rfl) ?_
              refine QX.then_normal (hK322 _ _ ?_)
              refine WC.seq (fun K335 hK336 => ?_)
              refine WC.region ?_
              refine WL.runs 1 [(8, .bool true)] (fun _ => by kernel_rfl) ?_
              refine WL.done rfl ?_
              refine QX.then_normal (hK336 _ _ ?_)
              refine WC.ret ?_
              refine (hret _ _ _ rfl ?_).1
              clear hN hret hret' hK336 hK322 hK250 hK248 hK151 hK54 hK52 hK46 hK43 hK41 hK30 hK28 hK9 hK2
              have h_ : touchT T f flags now = ((⟨(putL T.m f (⟨xv10.flow, xv10.dip, xv10.epoch, xv10.trusted, xv10.closing, now⟩ : Ent)), T.th, T.tm, T.uh, T.um⟩ : Tb), true) := by
                (first | contradiction | skip)
                all_goals unfold touchT
                all_goals rw [(look_some hxv11 (by rw [hbv13]; simpa using t31b))]
                all_goals simp [t152, t152b, t251, t251b, t31, t31b, t37, t37b, t44, t44b, t55, t55b]
                all_goals (try (intro hq_; exfalso; omega))
              rw [h_]
              exact ⟨rfl, hC332.fr, hpb, hC332.get 0 rfl, _, _, hC332.get 1 rfl, hm333⟩
      · -- f.proto ≠ 6: false
        have t44 : f.proto = 6 := by simpa using t44b
        refine WC.cond_false rfl ?_
        refine WC.skip ?_
        refine QX.then_normal (hK41 _ _ ?_)
        refine WC.seq (fun K337 hK338 => ?_)
        refine WC.region ?_
        refine WL.runs 2 [(28, .pointer (some ⟨g18, 9, none⟩)), (27, .int .i64 now)] (fun _ => by kernel_rfl) ?_
        refine WL.storeM (c' := #[.int .i64 xv10.flow.proto, .int .u32 xv10.flow.src, .int .i64 xv10.flow.sport, .int .u32 xv10.flow.dst, .int .i64 xv10.flow.dport, .int .u32 xv10.dip, .int .i64 xv10.epoch, .bool xv10.trusted, .bool xv10.closing, .int .i64 now]) hC36 3 3 g18 9 (.int .i64 now) (by kernel_rfl) rfl (by kernel_rfl) (fun w339 hF341 hC342 => ?_)
        refine WL.done rfl ?_
        refine QX.then_normal (hK338 _ _ ?_)
        refine WC.seq (fun K343 hK344 => ?_)
        refine WC.block ?_
        refine WC.seq (fun K345 hK346 => ?_)
        refine WC.region ?_
        refine WL.runs 4 [(29, .bool ((Go.bits .and .i64 flags 5) != 0)), (32, .bool ((Go.bits .and .i64 flags 5) != 0)), (31, .int .i64 (Go.bits .and .i64 flags 5)), (30, .int .i64 flags)] (fun _ => by kernel_rfl) ?_
        refine WL.done rfl ?_
        refine QX.then_normal (hK346 _ _ ?_)
        refine WC.test_at 29 ((Go.bits .and .i64 flags 5) != 0) rfl (fun t347b => ?_) (fun t347b => ?_)
        · -- (Go.bits .and .i64 flags 5) ≠ 0: true
          have t347 : (Go.bits .and .i64 flags 5) ≠ 0 := by simpa using t347b
          refine WC.cond_true rfl ?_
          refine WC.region ?_
          refine WL.runs 1 [(33, .pointer (some ⟨g18, 8, none⟩))] (fun _ => by kernel_rfl) ?_
          refine WL.storeM (c' := #[.int .i64 xv10.flow.proto, .int .u32 xv10.flow.src, .int .i64 xv10.flow.sport, .int .u32 xv10.flow.dst, .int .i64 xv10.flow.dport, .int .u32 xv10.dip, .int .i64 xv10.epoch, .bool xv10.trusted, .bool true, .int .i64 now]) hC342 3 4 g18 8 (.bool true) (by kernel_rfl) rfl (by kernel_rfl) (fun w348 hF350 hC351 => ?_)
          refine WL.done rfl ?_
          refine QX.block_normal ?_
          refine QX.then_normal (hK344 _ _ ?_)
          refine WC.seq (fun K352 hK353 => ?_)
          refine WC.seq (fun K354 hK355 => ?_)
          refine WC.region ?_
          refine WL.runs 1 [(39, .pointer (some ⟨g18, 7, none⟩))] (fun _ => by kernel_rfl) ?_
          refine WL.load 4 (.pointer (some ⟨g18, 7, none⟩)) (.bool xv10.trusted) 40 (by kernel_rfl) (run_ld (hC351.get 3 rfl) rfl) ?_
          refine WL.runs 2 [(42, .bool !xv10.trusted), (41, .bool !xv10.trusted)] (fun _ => by kernel_rfl) ?_
          refine WL.test_at 42 (!xv10.trusted) rfl (fun t356b => ?_) (fun t356b => ?_)
          · -- !xv10.trusted = true: true
            have t356 : xv10.trusted = false := by first | (simpa only [Bool.not_eq_true', Bool.not_eq_false'] using t356b) | simpa using t356b
            refine WL.runs 5 [(47, .bool ((Go.bits .and .i64 flags 2) == 0)), (46, .bool ((Go.bits .and .i64 flags 2) == 0)), (45, .bool ((Go.bits .and .i64 flags 2) == 0)), (44, .int .i64 (Go.bits .and .i64 flags 2)), (43, .int .i64 flags)] (fun _ => by kernel_rfl) ?_
            refine WL.test_at 47 ((Go.bits .and .i64 flags 2) == 0) rfl (fun t357b => ?_) (fun t357b => ?_)
            · -- (Go.bits .and .i64 flags 2) = 0: true
              have t357 : (Go.bits .and .i64 flags 2) = 0 := by simpa using t357b
              refine WL.runs 3 [(50, .pointer (some ⟨p, 1, none⟩)), (49, .pointer (some ⟨p, 0, none⟩)), (48, .pointer (some ⟨p, 0, none⟩))] (fun _ => by kernel_rfl) ?_
              refine WL.call rfl rfl rfl rfl rfl (by kernel_rfl) (room_ct p 1 T.th T.tm w348 (by rw [cell_blk (hC351.get 0 rfl)]; rfl) (by rw [cell_blk (hC351.get 0 rfl)]; rfl)) ?_
              rintro _ w359 ⟨rfl, hF358⟩
              refine ⟨_, rfl, ?_⟩
              have hC360 := hC351.call hF358
              refine WL.runs 1 [(52, .bool (decide (T.th < T.tm)))] (fun _ => by kernel_rfl) ?_
              refine WL.done rfl ?_
              refine QX.then_normal (hK355 _ _ ?_)
              refine WC.test_at 52 (decide (T.th < T.tm)) rfl (fun t361b => ?_) (fun t361b => ?_)
              · -- T.th < T.tm: true
                have t361 : T.th < T.tm := by have q_ := of_decide_eq_true t361b; omega
                refine WC.cond_true rfl ?_
                refine WC.seq (fun K362 hK363 => ?_)
                refine WC.region ?_
                refine WL.runs 1 [(53, .pointer (some ⟨g18, 7, none⟩))] (fun _ => by kernel_rfl) ?_
                refine WL.storeM (c' := #[.int .i64 xv10.flow.proto, .int .u32 xv10.flow.src, .int .i64 xv10.flow.sport, .int .u32 xv10.flow.dst, .int .i64 xv10.flow.dport, .int .u32 xv10.dip, .int .i64 xv10.epoch, .bool true, .bool true, .int .i64 now]) hC360 3 4 g18 7 (.bool true) (by kernel_rfl) rfl (by kernel_rfl) (fun w364 hF366 hC367 => ?_)
                refine WL.done rfl ?_
                refine QX.then_normal (hK363 _ _ ?_)
                refine WC.seq (fun K368 hK369 => ?_)
                refine WC.region ?_
                refine WL.runs 4 [(57, .pointer (some ⟨p, 3, none⟩)), (56, .pointer (some ⟨p, 3, none⟩)), (55, .pointer (some ⟨p, 0, none⟩)), (54, .pointer (some ⟨p, 0, none⟩))] (fun _ => by kernel_rfl) ?_
                refine WL.load 3 (.pointer (some ⟨p, 3, none⟩)) (.int .i64 T.uh) 58 (by kernel_rfl) (run_ld (hC367.get 0 rfl) rfl) ?_
                refine WL.runs 1 [(59, .int .i64 (IntKind.i64.wrap (T.uh - 1)))] (fun _ => by kernel_rfl) ?_
                refine WL.recast (show (.int .i64 (IntKind.i64.wrap (T.uh - 1)) : Value) = .int .i64 (T.uh - 1) from by rw [wrap_in_i64 (T.uh - 1) (by omega) (by omega)]) ?_
                refine WL.runs 3 [(62, .pointer (some ⟨p, 3, none⟩)), (61, .pointer (some ⟨p, 3, none⟩)), (60, .pointer (some ⟨p, 0, none⟩))] (fun _ => by kernel_rfl) ?_
                refine WL.storeM (c' := #[.map (some b), .int .i64 T.th, .int .i64 T.tm, .int .i64 (T.uh - 1), .int .i64 T.um]) hC367 0 3 p 3 (.int .i64 (T.uh - 1)) (by kernel_rfl) rfl (by kernel_rfl) (fun w370 hF372 hC373 => ?_)
                refine WL.done rfl ?_
                refine QX.then_normal (hK369 _ _ ?_)
                refine WC.region ?_
                refine WL.runs 4 [(66, .pointer (some ⟨p, 1, none⟩)), (65, .pointer (some ⟨p, 1, none⟩)), (64, .pointer (some ⟨p, 0, none⟩)), (63, .pointer (some ⟨p, 0, none⟩))] (fun _ => by kernel_rfl) ?_
                refine WL.load 3 (.pointer (some ⟨p, 1, none⟩)) (.int .i64 T.th) 67 (by kernel_rfl) (run_ld (hC373.get 0 rfl) rfl) ?_
                refine WL.runs 1 [(68, .int .i64 (IntKind.i64.wrap (T.th + 1)))] (fun _ => by kernel_rfl) ?_
                refine WL.recast (show (.int .i64 (IntKind.i64.wrap (T.th + 1)) : Value) = .int .i64 (T.th + 1) from by rw [wrap_in_i64 (T.th + 1) (by omega) (by omega)]) ?_
                refine WL.runs 3 [(71, .pointer (some ⟨p, 1, none⟩)), (70, .pointer (some ⟨p, 1, none⟩)), (69, .pointer (some ⟨p, 0, none⟩))] (fun _ => by kernel_rfl) ?_
                refine WL.storeM (c' := #[.map (some b), .int .i64 (T.th + 1), .int .i64 T.tm, .int .i64 (T.uh - 1), .int .i64 T.um]) hC373 0 3 p 1 (.int .i64 (T.th + 1)) (by kernel_rfl) rfl (by kernel_rfl) (fun w374 hF376 hC377 => ?_)
                refine WL.done rfl ?_
                refine QX.then_normal (hK353 _ _ ?_)
                refine WC.seq (fun K378 hK379 => ?_)
                refine WC.drawC hC377 [b] (by kernel_rfl) (fun w380 hF381 hC382 hS383 => ?_)
                refine WD.pure (NoPanic.then hN) 0 72 (.pointer (some ⟨p, 0, none⟩)) (by kernel_rfl) (fun _ => by kernel_rfl) hS383 ?_
                refine WD.pure (NoPanic.then hN) 1 73 (.pointer (some ⟨p, 0, none⟩)) (by kernel_rfl) (fun _ => by kernel_rfl) hS383 ?_
                refine WD.pure (NoPanic.then hN) 2 74 (.pointer (some ⟨p, 0, none⟩)) (by kernel_rfl) (fun _ => by kernel_rfl) hS383 ?_
                refine WD.load (NoPanic.then hN) 3 71 (.pointer (some ⟨p, 0, none⟩)) (.map (some b)) 75 (by kernel_rfl) (by kernel_rfl) (fun _ hS_ => run_ld (Fr.has hS_ (hC382.get 0 rfl) (by simpa using hC382.ne 0 1 rfl rfl (by decide))) rfl) hS383 ?_
                refine WD.load (NoPanic.then hN) 4 32 (.pointer (some ⟨g3, 0, none⟩)) (.agg #[.int .i64 f.proto, .int .u32 f.src, .int .i64 f.sport, .int .u32 f.dst, .int .i64 f.dport]) 76 (by kernel_rfl) (by kernel_rfl) (fun _ hS_ => run_ld (Fr.has hS_ (hC382.get 2 rfl) (by simpa using hC382.ne 2 1 rfl rfl (by decide))) rfl) hS383 ?_
                refine WD.sem 5 (Instr.loadAt 34 (.pointer (some ⟨g18, 0, none⟩))) 77 (.agg #[.int .i64 xv10.flow.proto, .int .u32 xv10.flow.src, .int .i64 xv10.flow.sport, .int .u32 xv10.flow.dst, .int .i64 xv10.flow.dport, .int .u32 xv10.dip, .int .i64 xv10.epoch, .bool true, .bool true, .int .i64 now]) (by kernel_rfl) (by kernel_rfl) (run_ld (hC382.get 3 rfl) rfl) hS383 ?_
                obtain ⟨w384, es385, cl386, hr387, hF388, hC389, hm390⟩ := putM_run (P := Try.prog) (ek := encF) (ev := encE) hC382 1 rfl (show Try.prog.underlying 71 = some (.map 32 34) from by kernel_rfl) keyF hm_ f (⟨xv10.flow, xv10.dip, xv10.epoch, true, true, now⟩ : Ent)
                have hS391 := hS383.trans hF388 (by simp)
                refine WD.semU 6 (Instr.mapUpdate 71 (.map (some b)) (.agg #[.int .i64 f.proto, .int .u32 f.src, .int .i64 f.sport, .int .u32 f.dst, .int .i64 f.dport]) (.agg #[.int .i64 xv10.flow.proto, .int .u32 xv10.flow.src, .int .i64 xv10.flow.sport, .int .u32 xv10.flow.dst, .int .i64 xv10.flow.dport, .int .u32 xv10.dip, .int .i64 xv10.epoch, .bool true, .bool true, .int .i64 now])) (by kernel_rfl) (by kernel_rfl) hr387 hS391 ?_
                refine WD.done (by kernel_rfl) ?_
                refine QX.then_normal (hK379 _ _ ?_)
                refine WC.seq (fun K392 hK393 => ?_)
                refine WC.region ?_
                refine WL.runs 1 [(8, .bool true)] (fun _ => by kernel_rfl) ?_
                refine WL.done rfl ?_
                refine QX.then_normal (hK393 _ _ ?_)
                refine WC.ret ?_
                refine (hret _ _ _ rfl ?_).1
                clear hN hret hret' hK393 hK379 hK369 hK363 hK355 hK353 hK346 hK344 hK338 hK43 hK41 hK30 hK28 hK9 hK2
                have h_ : touchT T f flags now = ((⟨(putL T.m f (⟨xv10.flow, xv10.dip, xv10.epoch, true, true, now⟩ : Ent)), T.th + 1, T.tm, T.uh - 1, T.um⟩ : Tb), true) := by
                  (first | contradiction | skip)
                  all_goals unfold touchT
                  all_goals rw [(look_some hxv11 (by rw [hbv13]; simpa using t31b))]
                  all_goals simp [t31, t31b, t347, t347b, t356, t356b, t357, t357b, t361, t361b, t37, t37b, t44, t44b]
                  all_goals (try (intro hq_; exfalso; omega))
                rw [h_]
                exact ⟨rfl, hC389.fr, hpb, hC389.get 0 rfl, _, _, hC389.get 1 rfl, hm390⟩
              · -- T.th < T.tm: false
                have t361 : T.tm ≤ T.th := by have q_ := of_decide_eq_false t361b; omega
                refine WC.cond_false rfl ?_
                refine WC.skip ?_
                refine QX.then_normal (hK353 _ _ ?_)
                refine WC.seq (fun K394 hK395 => ?_)
                refine WC.drawC hC360 [b] (by kernel_rfl) (fun w396 hF397 hC398 hS399 => ?_)
                refine WD.pure (NoPanic.then hN) 0 72 (.pointer (some ⟨p, 0, none⟩)) (by kernel_rfl) (fun _ => by kernel_rfl) hS399 ?_
                refine WD.pure (NoPanic.then hN) 1 73 (.pointer (some ⟨p, 0, none⟩)) (by kernel_rfl) (fun _ => by kernel_rfl) hS399 ?_
                refine WD.pure (NoPanic.then hN) 2 74 (.pointer (some ⟨p, 0, none⟩)) (by kernel_rfl) (fun _ => by kernel_rfl) hS399 ?_
                refine WD.load (NoPanic.then hN) 3 71 (.pointer (some ⟨p, 0, none⟩)) (.map (some b)) 75 (by kernel_rfl) (by kernel_rfl) (fun _ hS_ => run_ld (Fr.has hS_ (hC398.get 0 rfl) (by simpa using hC398.ne 0 1 rfl rfl (by decide))) rfl) hS399 ?_
                refine WD.load (NoPanic.then hN) 4 32 (.pointer (some ⟨g3, 0, none⟩)) (.agg #[.int .i64 f.proto, .int .u32 f.src, .int .i64 f.sport, .int .u32 f.dst, .int .i64 f.dport]) 76 (by kernel_rfl) (by kernel_rfl) (fun _ hS_ => run_ld (Fr.has hS_ (hC398.get 2 rfl) (by simpa using hC398.ne 2 1 rfl rfl (by decide))) rfl) hS399 ?_
                refine WD.sem 5 (Instr.loadAt 34 (.pointer (some ⟨g18, 0, none⟩))) 77 (.agg #[.int .i64 xv10.flow.proto, .int .u32 xv10.flow.src, .int .i64 xv10.flow.sport, .int .u32 xv10.flow.dst, .int .i64 xv10.flow.dport, .int .u32 xv10.dip, .int .i64 xv10.epoch, .bool xv10.trusted, .bool true, .int .i64 now]) (by kernel_rfl) (by kernel_rfl) (run_ld (hC398.get 3 rfl) rfl) hS399 ?_
                obtain ⟨w400, es401, cl402, hr403, hF404, hC405, hm406⟩ := putM_run (P := Try.prog) (ek := encF) (ev := encE) hC398 1 rfl (show Try.prog.underlying 71 = some (.map 32 34) from by kernel_rfl) keyF hm_ f (⟨xv10.flow, xv10.dip, xv10.epoch, xv10.trusted, true, now⟩ : Ent)
                have hS407 := hS399.trans hF404 (by simp)
                refine WD.semU 6 (Instr.mapUpdate 71 (.map (some b)) (.agg #[.int .i64 f.proto, .int .u32 f.src, .int .i64 f.sport, .int .u32 f.dst, .int .i64 f.dport]) (.agg #[.int .i64 xv10.flow.proto, .int .u32 xv10.flow.src, .int .i64 xv10.flow.sport, .int .u32 xv10.flow.dst, .int .i64 xv10.flow.dport, .int .u32 xv10.dip, .int .i64 xv10.epoch, .bool xv10.trusted, .bool true, .int .i64 now])) (by kernel_rfl) (by kernel_rfl) hr403 hS407 ?_
                refine WD.done (by kernel_rfl) ?_
                refine QX.then_normal (hK395 _ _ ?_)
                refine WC.seq (fun K408 hK409 => ?_)
                refine WC.region ?_
                refine WL.runs 1 [(8, .bool true)] (fun _ => by kernel_rfl) ?_
                refine WL.done rfl ?_
                refine QX.then_normal (hK409 _ _ ?_)
                refine WC.ret ?_
                refine (hret _ _ _ rfl ?_).1
                clear hN hret hret' hK409 hK395 hK355 hK353 hK346 hK344 hK338 hK43 hK41 hK30 hK28 hK9 hK2
                have h_ : touchT T f flags now = ((⟨(putL T.m f (⟨xv10.flow, xv10.dip, xv10.epoch, xv10.trusted, true, now⟩ : Ent)), T.th, T.tm, T.uh, T.um⟩ : Tb), true) := by
                  (first | contradiction | skip)
                  all_goals unfold touchT
                  all_goals rw [(look_some hxv11 (by rw [hbv13]; simpa using t31b))]
                  all_goals simp [t31, t31b, t347, t347b, t356, t356b, t357, t357b, t361, t361b, t37, t37b, t44, t44b]
                  all_goals (try (intro hq_; exfalso; omega))
                rw [h_]
                exact ⟨rfl, hC405.fr, hpb, hC405.get 0 rfl, _, _, hC405.get 1 rfl, hm406⟩
            · -- (Go.bits .and .i64 flags 2) = 0: false
              have t357 : ¬ ((Go.bits .and .i64 flags 2) = 0) := by simpa using t357b
              refine WL.runs 5 [(52, .bool false), (51, undef), (50, undef), (49, undef), (48, undef)] (fun _ => by kernel_rfl) ?_
              refine WL.done rfl ?_
              refine QX.then_normal (hK355 _ _ ?_)
              refine WC.cond_false rfl ?_
              refine WC.skip ?_
              refine QX.then_normal (hK353 _ _ ?_)
              refine WC.seq (fun K410 hK411 => ?_)
              refine WC.drawC hC351 [b] (by kernel_rfl) (fun w412 hF413 hC414 hS415 => ?_)
              refine WD.pure (NoPanic.then hN) 0 72 (.pointer (some ⟨p, 0, none⟩)) (by kernel_rfl) (fun _ => by kernel_rfl) hS415 ?_
              refine WD.pure (NoPanic.then hN) 1 73 (.pointer (some ⟨p, 0, none⟩)) (by kernel_rfl) (fun _ => by kernel_rfl) hS415 ?_
              refine WD.pure (NoPanic.then hN) 2 74 (.pointer (some ⟨p, 0, none⟩)) (by kernel_rfl) (fun _ => by kernel_rfl) hS415 ?_
              refine WD.load (NoPanic.then hN) 3 71 (.pointer (some ⟨p, 0, none⟩)) (.map (some b)) 75 (by kernel_rfl) (by kernel_rfl) (fun _ hS_ => run_ld (Fr.has hS_ (hC414.get 0 rfl) (by simpa using hC414.ne 0 1 rfl rfl (by decide))) rfl) hS415 ?_
              refine WD.load (NoPanic.then hN) 4 32 (.pointer (some ⟨g3, 0, none⟩)) (.agg #[.int .i64 f.proto, .int .u32 f.src, .int .i64 f.sport, .int .u32 f.dst, .int .i64 f.dport]) 76 (by kernel_rfl) (by kernel_rfl) (fun _ hS_ => run_ld (Fr.has hS_ (hC414.get 2 rfl) (by simpa using hC414.ne 2 1 rfl rfl (by decide))) rfl) hS415 ?_
              refine WD.sem 5 (Instr.loadAt 34 (.pointer (some ⟨g18, 0, none⟩))) 77 (.agg #[.int .i64 xv10.flow.proto, .int .u32 xv10.flow.src, .int .i64 xv10.flow.sport, .int .u32 xv10.flow.dst, .int .i64 xv10.flow.dport, .int .u32 xv10.dip, .int .i64 xv10.epoch, .bool xv10.trusted, .bool true, .int .i64 now]) (by kernel_rfl) (by kernel_rfl) (run_ld (hC414.get 3 rfl) rfl) hS415 ?_
              obtain ⟨w416, es417, cl418, hr419, hF420, hC421, hm422⟩ := putM_run (P := Try.prog) (ek := encF) (ev := encE) hC414 1 rfl (show Try.prog.underlying 71 = some (.map 32 34) from by kernel_rfl) keyF hm_ f (⟨xv10.flow, xv10.dip, xv10.epoch, xv10.trusted, true, now⟩ : Ent)
              have hS423 := hS415.trans hF420 (by simp)
              refine WD.semU 6 (Instr.mapUpdate 71 (.map (some b)) (.agg #[.int .i64 f.proto, .int .u32 f.src, .int .i64 f.sport, .int .u32 f.dst, .int .i64 f.dport]) (.agg #[.int .i64 xv10.flow.proto, .int .u32 xv10.flow.src, .int .i64 xv10.flow.sport, .int .u32 xv10.flow.dst, .int .i64 xv10.flow.dport, .int .u32 xv10.dip, .int .i64 xv10.epoch, .bool xv10.trusted, .bool true, .int .i64 now])) (by kernel_rfl) (by kernel_rfl) hr419 hS423 ?_
              refine WD.done (by kernel_rfl) ?_
              refine QX.then_normal (hK411 _ _ ?_)
              refine WC.seq (fun K424 hK425 => ?_)
              refine WC.region ?_
              refine WL.runs 1 [(8, .bool true)] (fun _ => by kernel_rfl) ?_
              refine WL.done rfl ?_
              refine QX.then_normal (hK425 _ _ ?_)
              refine WC.ret ?_
              refine (hret _ _ _ rfl ?_).1
              clear hN hret hret' hK425 hK411 hK355 hK353 hK346 hK344 hK338 hK43 hK41 hK30 hK28 hK9 hK2
              have h_ : touchT T f flags now = ((⟨(putL T.m f (⟨xv10.flow, xv10.dip, xv10.epoch, xv10.trusted, true, now⟩ : Ent)), T.th, T.tm, T.uh, T.um⟩ : Tb), true) := by
                (first | contradiction | skip)
                all_goals unfold touchT
                all_goals rw [(look_some hxv11 (by rw [hbv13]; simpa using t31b))]
                all_goals simp [t31, t31b, t347, t347b, t356, t356b, t357, t357b, t37, t37b, t44, t44b]
                all_goals (try (intro hq_; exfalso; omega))
              rw [h_]
              exact ⟨rfl, hC421.fr, hpb, hC421.get 0 rfl, _, _, hC421.get 1 rfl, hm422⟩
          · -- !xv10.trusted = true: false
            have t356 : xv10.trusted = true := by first | (simpa only [Bool.not_eq_true', Bool.not_eq_false'] using t356b) | simpa using t356b
            refine WL.runs 10 [(52, .bool false), (51, undef), (50, undef), (49, undef), (48, undef), (47, .bool false), (46, .bool false), (45, undef), (44, undef), (43, undef)] (fun _ => by kernel_rfl) ?_
            refine WL.done rfl ?_
            refine QX.then_normal (hK355 _ _ ?_)
            refine WC.cond_false rfl ?_
            refine WC.skip ?_
            refine QX.then_normal (hK353 _ _ ?_)
            refine WC.seq (fun K426 hK427 => ?_)
            refine WC.drawC hC351 [b] (by kernel_rfl) (fun w428 hF429 hC430 hS431 => ?_)
            refine WD.pure (NoPanic.then hN) 0 72 (.pointer (some ⟨p, 0, none⟩)) (by kernel_rfl) (fun _ => by kernel_rfl) hS431 ?_
            refine WD.pure (NoPanic.then hN) 1 73 (.pointer (some ⟨p, 0, none⟩)) (by kernel_rfl) (fun _ => by kernel_rfl) hS431 ?_
            refine WD.pure (NoPanic.then hN) 2 74 (.pointer (some ⟨p, 0, none⟩)) (by kernel_rfl) (fun _ => by kernel_rfl) hS431 ?_
            refine WD.load (NoPanic.then hN) 3 71 (.pointer (some ⟨p, 0, none⟩)) (.map (some b)) 75 (by kernel_rfl) (by kernel_rfl) (fun _ hS_ => run_ld (Fr.has hS_ (hC430.get 0 rfl) (by simpa using hC430.ne 0 1 rfl rfl (by decide))) rfl) hS431 ?_
            refine WD.load (NoPanic.then hN) 4 32 (.pointer (some ⟨g3, 0, none⟩)) (.agg #[.int .i64 f.proto, .int .u32 f.src, .int .i64 f.sport, .int .u32 f.dst, .int .i64 f.dport]) 76 (by kernel_rfl) (by kernel_rfl) (fun _ hS_ => run_ld (Fr.has hS_ (hC430.get 2 rfl) (by simpa using hC430.ne 2 1 rfl rfl (by decide))) rfl) hS431 ?_
            refine WD.sem 5 (Instr.loadAt 34 (.pointer (some ⟨g18, 0, none⟩))) 77 (.agg #[.int .i64 xv10.flow.proto, .int .u32 xv10.flow.src, .int .i64 xv10.flow.sport, .int .u32 xv10.flow.dst, .int .i64 xv10.flow.dport, .int .u32 xv10.dip, .int .i64 xv10.epoch, .bool xv10.trusted, .bool true, .int .i64 now]) (by kernel_rfl) (by kernel_rfl) (run_ld (hC430.get 3 rfl) rfl) hS431 ?_
            obtain ⟨w432, es433, cl434, hr435, hF436, hC437, hm438⟩ := putM_run (P := Try.prog) (ek := encF) (ev := encE) hC430 1 rfl (show Try.prog.underlying 71 = some (.map 32 34) from by kernel_rfl) keyF hm_ f (⟨xv10.flow, xv10.dip, xv10.epoch, xv10.trusted, true, now⟩ : Ent)
            have hS439 := hS431.trans hF436 (by simp)
            refine WD.semU 6 (Instr.mapUpdate 71 (.map (some b)) (.agg #[.int .i64 f.proto, .int .u32 f.src, .int .i64 f.sport, .int .u32 f.dst, .int .i64 f.dport]) (.agg #[.int .i64 xv10.flow.proto, .int .u32 xv10.flow.src, .int .i64 xv10.flow.sport, .int .u32 xv10.flow.dst, .int .i64 xv10.flow.dport, .int .u32 xv10.dip, .int .i64 xv10.epoch, .bool xv10.trusted, .bool true, .int .i64 now])) (by kernel_rfl) (by kernel_rfl) hr435 hS439 ?_
            refine WD.done (by kernel_rfl) ?_
            refine QX.then_normal (hK427 _ _ ?_)
            refine WC.seq (fun K440 hK441 => ?_)
            refine WC.region ?_
            refine WL.runs 1 [(8, .bool true)] (fun _ => by kernel_rfl) ?_
            refine WL.done rfl ?_
            refine QX.then_normal (hK441 _ _ ?_)
            refine WC.ret ?_
            refine (hret _ _ _ rfl ?_).1
            clear hN hret hret' hK441 hK427 hK355 hK353 hK346 hK344 hK338 hK43 hK41 hK30 hK28 hK9 hK2
            have h_ : touchT T f flags now = ((⟨(putL T.m f (⟨xv10.flow, xv10.dip, xv10.epoch, xv10.trusted, true, now⟩ : Ent)), T.th, T.tm, T.uh, T.um⟩ : Tb), true) := by
              (first | contradiction | skip)
              all_goals unfold touchT
              all_goals rw [(look_some hxv11 (by rw [hbv13]; simpa using t31b))]
              all_goals simp [t31, t31b, t347, t347b, t356, t356b, t37, t37b, t44, t44b]
              all_goals (try (intro hq_; exfalso; omega))
            rw [h_]
            exact ⟨rfl, hC437.fr, hpb, hC437.get 0 rfl, _, _, hC437.get 1 rfl, hm438⟩
        · -- (Go.bits .and .i64 flags 5) ≠ 0: false
          have t347 : (Go.bits .and .i64 flags 5) = 0 := by simpa using t347b
          refine WC.cond_false rfl ?_
          refine WC.seq (fun K442 hK443 => ?_)
          refine WC.region ?_
          refine WL.runs 4 [(34, .bool ((Go.bits .and .i64 flags 2) != 0)), (37, .bool ((Go.bits .and .i64 flags 2) != 0)), (36, .int .i64 (Go.bits .and .i64 flags 2)), (35, .int .i64 flags)] (fun _ => by kernel_rfl) ?_
          refine WL.done rfl ?_
          refine QX.then_normal (hK443 _ _ ?_)
          refine WC.test_at 34 ((Go.bits .and .i64 flags 2) != 0) rfl (fun t444b => ?_) (fun t444b => ?_)
          · -- (Go.bits .and .i64 flags 2) ≠ 0: true
            have t444 : (Go.bits .and .i64 flags 2) ≠ 0 := by simpa using t444b
            refine WC.cond_true rfl ?_
            refine WC.region ?_
            refine WL.runs 1 [(38, .pointer (some ⟨g18, 8, none⟩))] (fun _ => by kernel_rfl) ?_
            refine WL.storeM (c' := #[.int .i64 xv10.flow.proto, .int .u32 xv10.flow.src, .int .i64 xv10.flow.sport, .int .u32 xv10.flow.dst, .int .i64 xv10.flow.dport, .int .u32 xv10.dip, .int .i64 xv10.epoch, .bool xv10.trusted, .bool false, .int .i64 now]) hC342 3 4 g18 8 (.bool false) (by kernel_rfl) rfl (by kernel_rfl) (fun w445 hF447 hC448 => ?_)
            refine WL.done rfl ?_
            refine QX.block_normal ?_
            refine QX.then_normal (hK344 _ _ ?_)
            refine WC.seq (fun K449 hK450 => ?_)
            refine WC.seq (fun K451 hK452 => ?_)
            refine WC.region ?_
            refine WL.runs 1 [(39, .pointer (some ⟨g18, 7, none⟩))] (fun _ => by kernel_rfl) ?_
            refine WL.load 4 (.pointer (some ⟨g18, 7, none⟩)) (.bool xv10.trusted) 40 (by kernel_rfl) (run_ld (hC448.get 3 rfl) rfl) ?_
            refine WL.runs 2 [(42, .bool !xv10.trusted), (41, .bool !xv10.trusted)] (fun _ => by kernel_rfl) ?_
            refine WL.test_at 42 (!xv10.trusted) rfl (fun t453b => ?_) (fun t453b => ?_)
            · -- !xv10.trusted = true: true
              have t453 : xv10.trusted = false := by first | (simpa only [Bool.not_eq_true', Bool.not_eq_false'] using t453b) | simpa using t453b
              refine WL.runs 5 [(47, .bool ((Go.bits .and .i64 flags 2) == 0)), (46, .bool ((Go.bits .and .i64 flags 2) == 0)), (45, .bool ((Go.bits .and .i64 flags 2) == 0)), (44, .int .i64 (Go.bits .and .i64 flags 2)), (43, .int .i64 flags)] (fun _ => by kernel_rfl) ?_
              refine WL.test_at 47 ((Go.bits .and .i64 flags 2) == 0) rfl (fun t454b => ?_) (fun t454b => ?_)
              · -- (Go.bits .and .i64 flags 2) = 0: true
                have t454 : (Go.bits .and .i64 flags 2) = 0 := by simpa using t454b
                refine WL.runs 3 [(50, .pointer (some ⟨p, 1, none⟩)), (49, .pointer (some ⟨p, 0, none⟩)), (48, .pointer (some ⟨p, 0, none⟩))] (fun _ => by kernel_rfl) ?_
                refine WL.call rfl rfl rfl rfl rfl (by kernel_rfl) (room_ct p 1 T.th T.tm w445 (by rw [cell_blk (hC448.get 0 rfl)]; rfl) (by rw [cell_blk (hC448.get 0 rfl)]; rfl)) ?_
                rintro _ w456 ⟨rfl, hF455⟩
                refine ⟨_, rfl, ?_⟩
                have hC457 := hC448.call hF455
                refine WL.runs 1 [(52, .bool (decide (T.th < T.tm)))] (fun _ => by kernel_rfl) ?_
                refine WL.done rfl ?_
                refine QX.then_normal (hK452 _ _ ?_)
                refine WC.test_at 52 (decide (T.th < T.tm)) rfl (fun t458b => ?_) (fun t458b => ?_)
                · -- T.th < T.tm: true
                  have t458 : T.th < T.tm := by have q_ := of_decide_eq_true t458b; omega
                  refine WC.cond_true rfl ?_
                  refine WC.seq (fun K459 hK460 => ?_)
                  refine WC.region ?_
                  refine WL.runs 1 [(53, .pointer (some ⟨g18, 7, none⟩))] (fun _ => by kernel_rfl) ?_
                  refine WL.storeM (c' := #[.int .i64 xv10.flow.proto, .int .u32 xv10.flow.src, .int .i64 xv10.flow.sport, .int .u32 xv10.flow.dst, .int .i64 xv10.flow.dport, .int .u32 xv10.dip, .int .i64 xv10.epoch, .bool true, .bool false, .int .i64 now]) hC457 3 4 g18 7 (.bool true) (by kernel_rfl) rfl (by kernel_rfl) (fun w461 hF463 hC464 => ?_)
                  refine WL.done rfl ?_
                  refine QX.then_normal (hK460 _ _ ?_)
                  refine WC.seq (fun K465 hK466 => ?_)
                  refine WC.region ?_
                  refine WL.runs 4 [(57, .pointer (some ⟨p, 3, none⟩)), (56, .pointer (some ⟨p, 3, none⟩)), (55, .pointer (some ⟨p, 0, none⟩)), (54, .pointer (some ⟨p, 0, none⟩))] (fun _ => by kernel_rfl) ?_
                  refine WL.load 3 (.pointer (some ⟨p, 3, none⟩)) (.int .i64 T.uh) 58 (by kernel_rfl) (run_ld (hC464.get 0 rfl) rfl) ?_
                  refine WL.runs 1 [(59, .int .i64 (IntKind.i64.wrap (T.uh - 1)))] (fun _ => by kernel_rfl) ?_
                  refine WL.recast (show (.int .i64 (IntKind.i64.wrap (T.uh - 1)) : Value) = .int .i64 (T.uh - 1) from by rw [wrap_in_i64 (T.uh - 1) (by omega) (by omega)]) ?_
                  refine WL.runs 3 [(62, .pointer (some ⟨p, 3, none⟩)), (61, .pointer (some ⟨p, 3, none⟩)), (60, .pointer (some ⟨p, 0, none⟩))] (fun _ => by kernel_rfl) ?_
                  refine WL.storeM (c' := #[.map (some b), .int .i64 T.th, .int .i64 T.tm, .int .i64 (T.uh - 1), .int .i64 T.um]) hC464 0 3 p 3 (.int .i64 (T.uh - 1)) (by kernel_rfl) rfl (by kernel_rfl) (fun w467 hF469 hC470 => ?_)
                  refine WL.done rfl ?_
                  refine QX.then_normal (hK466 _ _ ?_)
                  refine WC.region ?_
                  refine WL.runs 4 [(66, .pointer (some ⟨p, 1, none⟩)), (65, .pointer (some ⟨p, 1, none⟩)), (64, .pointer (some ⟨p, 0, none⟩)), (63, .pointer (some ⟨p, 0, none⟩))] (fun _ => by kernel_rfl) ?_
                  refine WL.load 3 (.pointer (some ⟨p, 1, none⟩)) (.int .i64 T.th) 67 (by kernel_rfl) (run_ld (hC470.get 0 rfl) rfl) ?_
                  refine WL.runs 1 [(68, .int .i64 (IntKind.i64.wrap (T.th + 1)))] (fun _ => by kernel_rfl) ?_
                  refine WL.recast (show (.int .i64 (IntKind.i64.wrap (T.th + 1)) : Value) = .int .i64 (T.th + 1) from by rw [wrap_in_i64 (T.th + 1) (by omega) (by omega)]) ?_
                  refine WL.runs 3 [(71, .pointer (some ⟨p, 1, none⟩)), (70, .pointer (some ⟨p, 1, none⟩)), (69, .pointer (some ⟨p, 0, none⟩))] (fun _ => by kernel_rfl) ?_
                  refine WL.storeM (c' := #[.map (some b), .int .i64 (T.th + 1), .int .i64 T.tm, .int .i64 (T.uh - 1), .int .i64 T.um]) hC470 0 3 p 1 (.int .i64 (T.th + 1)) (by kernel_rfl) rfl (by kernel_rfl) (fun w471 hF473 hC474 => ?_)
                  refine WL.done rfl ?_
                  refine QX.then_normal (hK450 _ _ ?_)
                  refine WC.seq (fun K475 hK476 => ?_)
                  refine WC.drawC hC474 [b] (by kernel_rfl) (fun w477 hF478 hC479 hS480 => ?_)
                  refine WD.pure (NoPanic.then hN) 0 72 (.pointer (some ⟨p, 0, none⟩)) (by kernel_rfl) (fun _ => by kernel_rfl) hS480 ?_
                  refine WD.pure (NoPanic.then hN) 1 73 (.pointer (some ⟨p, 0, none⟩)) (by kernel_rfl) (fun _ => by kernel_rfl) hS480 ?_
                  refine WD.pure (NoPanic.then hN) 2 74 (.pointer (some ⟨p, 0, none⟩)) (by kernel_rfl) (fun _ => by kernel_rfl) hS480 ?_
                  refine WD.load (NoPanic.then hN) 3 71 (.pointer (some ⟨p, 0, none⟩)) (.map (some b)) 75 (by kernel_rfl) (by kernel_rfl) (fun _ hS_ => run_ld (Fr.has hS_ (hC479.get 0 rfl) (by simpa using hC479.ne 0 1 rfl rfl (by decide))) rfl) hS480 ?_
                  refine WD.load (NoPanic.then hN) 4 32 (.pointer (some ⟨g3, 0, none⟩)) (.agg #[.int .i64 f.proto, .int .u32 f.src, .int .i64 f.sport, .int .u32 f.dst, .int .i64 f.dport]) 76 (by kernel_rfl) (by kernel_rfl) (fun _ hS_ => run_ld (Fr.has hS_ (hC479.get 2 rfl) (by simpa using hC479.ne 2 1 rfl rfl (by decide))) rfl) hS480 ?_
                  refine WD.sem 5 (Instr.loadAt 34 (.pointer (some ⟨g18, 0, none⟩))) 77 (.agg #[.int .i64 xv10.flow.proto, .int .u32 xv10.flow.src, .int .i64 xv10.flow.sport, .int .u32 xv10.flow.dst, .int .i64 xv10.flow.dport, .int .u32 xv10.dip, .int .i64 xv10.epoch, .bool true, .bool false, .int .i64 now]) (by kernel_rfl) (by kernel_rfl) (run_ld (hC479.get 3 rfl) rfl) hS480 ?_
                  obtain ⟨w481, es482, cl483, hr484, hF485, hC486, hm487⟩ := putM_run (P := Try.prog) (ek := encF) (ev := encE) hC479 1 rfl (show Try.prog.underlying 71 = some (.map 32 34) from by kernel_rfl) keyF hm_ f (⟨xv10.flow, xv10.dip, xv10.epoch, true, false, now⟩ : Ent)
                  have hS488 := hS480.trans hF485 (by simp)
                  refine WD.semU 6 (Instr.mapUpdate 71 (.map (some b)) (.agg #[.int .i64 f.proto, .int .u32 f.src, .int .i64 f.sport, .int .u32 f.dst, .int .i64 f.dport]) (.agg #[.int .i64 xv10.flow.proto, .int .u32 xv10.flow.src, .int .i64 xv10.flow.sport, .int .u32 xv10.flow.dst, .int .i64 xv10.flow.dport, .int .u32 xv10.dip, .int .i64 xv10.epoch, .bool true, .bool false, .int .i64 now])) (by kernel_rfl) (by kernel_rfl) hr484 hS488 ?_
                  refine WD.done (by kernel_rfl) ?_
                  refine QX.then_normal (hK476 _ _ ?_)
                  refine WC.seq (fun K489 hK490 => ?_)
                  refine WC.region ?_
                  refine WL.runs 1 [(8, .bool true)] (fun _ => by kernel_rfl) ?_
                  refine WL.done rfl ?_
                  refine QX.then_normal (hK490 _ _ ?_)
                  refine WC.ret ?_
                  refine (hret _ _ _ rfl ?_).1
                  clear hN hret hret' hK490 hK476 hK466 hK460 hK452 hK450 hK443 hK346 hK344 hK338 hK43 hK41 hK30 hK28 hK9 hK2
                  have h_ : touchT T f flags now = ((⟨(putL T.m f (⟨xv10.flow, xv10.dip, xv10.epoch, true, false, now⟩ : Ent)), T.th + 1, T.tm, T.uh - 1, T.um⟩ : Tb), true) := by
                    (first | contradiction | skip)
                    all_goals unfold touchT
                    all_goals rw [(look_some hxv11 (by rw [hbv13]; simpa using t31b))]
                    all_goals simp [t31, t31b, t347, t347b, t37, t37b, t44, t444, t444b, t44b, t453, t453b, t454, t454b, t458, t458b]
                    all_goals (try (intro hq_; exfalso; omega))
                  rw [h_]
                  exact ⟨rfl, hC486.fr, hpb, hC486.get 0 rfl, _, _, hC486.get 1 rfl, hm487⟩
                · -- T.th < T.tm: false
                  have t458 : T.tm ≤ T.th := by have q_ := of_decide_eq_false t458b; omega
                  refine WC.cond_false rfl ?_
                  refine WC.skip ?_
                  refine QX.then_normal (hK450 _ _ ?_)
                  refine WC.seq (fun K491 hK492 => ?_)
                  refine WC.drawC hC457 [b] (by kernel_rfl) (fun w493 hF494 hC495 hS496 => ?_)
                  refine WD.pure (NoPanic.then hN) 0 72 (.pointer (some ⟨p, 0, none⟩)) (by kernel_rfl) (fun _ => by kernel_rfl) hS496 ?_
                  refine WD.pure (NoPanic.then hN) 1 73 (.pointer (some ⟨p, 0, none⟩)) (by kernel_rfl) (fun _ => by kernel_rfl) hS496 ?_
                  refine WD.pure (NoPanic.then hN) 2 74 (.pointer (some ⟨p, 0, none⟩)) (by kernel_rfl) (fun _ => by kernel_rfl) hS496 ?_
                  refine WD.load (NoPanic.then hN) 3 71 (.pointer (some ⟨p, 0, none⟩)) (.map (some b)) 75 (by kernel_rfl) (by kernel_rfl) (fun _ hS_ => run_ld (Fr.has hS_ (hC495.get 0 rfl) (by simpa using hC495.ne 0 1 rfl rfl (by decide))) rfl) hS496 ?_
                  refine WD.load (NoPanic.then hN) 4 32 (.pointer (some ⟨g3, 0, none⟩)) (.agg #[.int .i64 f.proto, .int .u32 f.src, .int .i64 f.sport, .int .u32 f.dst, .int .i64 f.dport]) 76 (by kernel_rfl) (by kernel_rfl) (fun _ hS_ => run_ld (Fr.has hS_ (hC495.get 2 rfl) (by simpa using hC495.ne 2 1 rfl rfl (by decide))) rfl) hS496 ?_
                  refine WD.sem 5 (Instr.loadAt 34 (.pointer (some ⟨g18, 0, none⟩))) 77 (.agg #[.int .i64 xv10.flow.proto, .int .u32 xv10.flow.src, .int .i64 xv10.flow.sport, .int .u32 xv10.flow.dst, .int .i64 xv10.flow.dport, .int .u32 xv10.dip, .int .i64 xv10.epoch, .bool xv10.trusted, .bool false, .int .i64 now]) (by kernel_rfl) (by kernel_rfl) (run_ld (hC495.get 3 rfl) rfl) hS496 ?_
                  obtain ⟨w497, es498, cl499, hr500, hF501, hC502, hm503⟩ := putM_run (P := Try.prog) (ek := encF) (ev := encE) hC495 1 rfl (show Try.prog.underlying 71 = some (.map 32 34) from by kernel_rfl) keyF hm_ f (⟨xv10.flow, xv10.dip, xv10.epoch, xv10.trusted, false, now⟩ : Ent)
                  have hS504 := hS496.trans hF501 (by simp)
                  refine WD.semU 6 (Instr.mapUpdate 71 (.map (some b)) (.agg #[.int .i64 f.proto, .int .u32 f.src, .int .i64 f.sport, .int .u32 f.dst, .int .i64 f.dport]) (.agg #[.int .i64 xv10.flow.proto, .int .u32 xv10.flow.src, .int .i64 xv10.flow.sport, .int .u32 xv10.flow.dst, .int .i64 xv10.flow.dport, .int .u32 xv10.dip, .int .i64 xv10.epoch, .bool xv10.trusted, .bool false, .int .i64 now])) (by kernel_rfl) (by kernel_rfl) hr500 hS504 ?_
                  refine WD.done (by kernel_rfl) ?_
                  refine QX.then_normal (hK492 _ _ ?_)
                  refine WC.seq (fun K505 hK506 => ?_)
                  refine WC.region ?_
                  refine WL.runs 1 [(8, .bool true)] (fun _ => by kernel_rfl) ?_
                  refine WL.done rfl ?_
                  refine QX.then_normal (hK506 _ _ ?_)
                  refine WC.ret ?_
                  refine (hret _ _ _ rfl ?_).1
                  clear hN hret hret' hK506 hK492 hK452 hK450 hK443 hK346 hK344 hK338 hK43 hK41 hK30 hK28 hK9 hK2
                  have h_ : touchT T f flags now = ((⟨(putL T.m f (⟨xv10.flow, xv10.dip, xv10.epoch, xv10.trusted, false, now⟩ : Ent)), T.th, T.tm, T.uh, T.um⟩ : Tb), true) := by
                    (first | contradiction | skip)
                    all_goals unfold touchT
                    all_goals rw [(look_some hxv11 (by rw [hbv13]; simpa using t31b))]
                    all_goals simp [t31, t31b, t347, t347b, t37, t37b, t44, t444, t444b, t44b, t453, t453b, t454, t454b, t458, t458b]
                    all_goals (try (intro hq_; exfalso; omega))
                  rw [h_]
                  exact ⟨rfl, hC502.fr, hpb, hC502.get 0 rfl, _, _, hC502.get 1 rfl, hm503⟩
              · -- (Go.bits .and .i64 flags 2) = 0: false
                have t454 : ¬ ((Go.bits .and .i64 flags 2) = 0) := by simpa using t454b
                refine WL.runs 5 [(52, .bool false), (51, undef), (50, undef), (49, undef), (48, undef)] (fun _ => by kernel_rfl) ?_
                refine WL.done rfl ?_
                refine QX.then_normal (hK452 _ _ ?_)
                refine WC.cond_false rfl ?_
                refine WC.skip ?_
                refine QX.then_normal (hK450 _ _ ?_)
                refine WC.seq (fun K507 hK508 => ?_)
                refine WC.drawC hC448 [b] (by kernel_rfl) (fun w509 hF510 hC511 hS512 => ?_)
                refine WD.pure (NoPanic.then hN) 0 72 (.pointer (some ⟨p, 0, none⟩)) (by kernel_rfl) (fun _ => by kernel_rfl) hS512 ?_
                refine WD.pure (NoPanic.then hN) 1 73 (.pointer (some ⟨p, 0, none⟩)) (by kernel_rfl) (fun _ => by kernel_rfl) hS512 ?_
                refine WD.pure (NoPanic.then hN) 2 74 (.pointer (some ⟨p, 0, none⟩)) (by kernel_rfl) (fun _ => by kernel_rfl) hS512 ?_
                refine WD.load (NoPanic.then hN) 3 71 (.pointer (some ⟨p, 0, none⟩)) (.map (some b)) 75 (by kernel_rfl) (by kernel_rfl) (fun _ hS_ => run_ld (Fr.has hS_ (hC511.get 0 rfl) (by simpa using hC511.ne 0 1 rfl rfl (by decide))) rfl) hS512 ?_
                refine WD.load (NoPanic.then hN) 4 32 (.pointer (some ⟨g3, 0, none⟩)) (.agg #[.int .i64 f.proto, .int .u32 f.src, .int .i64 f.sport, .int .u32 f.dst, .int .i64 f.dport]) 76 (by kernel_rfl) (by kernel_rfl) (fun _ hS_ => run_ld (Fr.has hS_ (hC511.get 2 rfl) (by simpa using hC511.ne 2 1 rfl rfl (by decide))) rfl) hS512 ?_
                refine WD.sem 5 (Instr.loadAt 34 (.pointer (some ⟨g18, 0, none⟩))) 77 (.agg #[.int .i64 xv10.flow.proto, .int .u32 xv10.flow.src, .int .i64 xv10.flow.sport, .int .u32 xv10.flow.dst, .int .i64 xv10.flow.dport, .int .u32 xv10.dip, .int .i64 xv10.epoch, .bool xv10.trusted, .bool false, .int .i64 now]) (by kernel_rfl) (by kernel_rfl) (run_ld (hC511.get 3 rfl) rfl) hS512 ?_
                obtain ⟨w513, es514, cl515, hr516, hF517, hC518, hm519⟩ := putM_run (P := Try.prog) (ek := encF) (ev := encE) hC511 1 rfl (show Try.prog.underlying 71 = some (.map 32 34) from by kernel_rfl) keyF hm_ f (⟨xv10.flow, xv10.dip, xv10.epoch, xv10.trusted, false, now⟩ : Ent)
                have hS520 := hS512.trans hF517 (by simp)
                refine WD.semU 6 (Instr.mapUpdate 71 (.map (some b)) (.agg #[.int .i64 f.proto, .int .u32 f.src, .int .i64 f.sport, .int .u32 f.dst, .int .i64 f.dport]) (.agg #[.int .i64 xv10.flow.proto, .int .u32 xv10.flow.src, .int .i64 xv10.flow.sport, .int .u32 xv10.flow.dst, .int .i64 xv10.flow.dport, .int .u32 xv10.dip, .int .i64 xv10.epoch, .bool xv10.trusted, .bool false, .int .i64 now])) (by kernel_rfl) (by kernel_rfl) hr516 hS520 ?_
                refine WD.done (by kernel_rfl) ?_
                refine QX.then_normal (hK508 _ _ ?_)
                refine WC.seq (fun K521 hK522 => ?_)
                refine WC.region ?_
                refine WL.runs 1 [(8, .bool true)] (fun _ => by kernel_rfl) ?_
                refine WL.done rfl ?_
                refine QX.then_normal (hK522 _ _ ?_)
                refine WC.ret ?_
                refine (hret _ _ _ rfl ?_).1
                clear hN hret hret' hK522 hK508 hK452 hK450 hK443 hK346 hK344 hK338 hK43 hK41 hK30 hK28 hK9 hK2
                have h_ : touchT T f flags now = ((⟨(putL T.m f (⟨xv10.flow, xv10.dip, xv10.epoch, xv10.trusted, false, now⟩ : Ent)), T.th, T.tm, T.uh, T.um⟩ : Tb), true) := by
                  (first | contradiction | skip)
                  all_goals unfold touchT
                  all_goals rw [(look_some hxv11 (by rw [hbv13]; simpa using t31b))]
                  all_goals simp [t31, t31b, t347, t347b, t37, t37b, t44, t444, t444b, t44b, t453, t453b, t454, t454b]
                  all_goals (try (intro hq_; exfalso; omega))
                rw [h_]
                exact ⟨rfl, hC518.fr, hpb, hC518.get 0 rfl, _, _, hC518.get 1 rfl, hm519⟩
            · -- !xv10.trusted = true: false
              have t453 : xv10.trusted = true := by first | (simpa only [Bool.not_eq_true', Bool.not_eq_false'] using t453b) | simpa using t453b
              refine WL.runs 10 [(52, .bool false), (51, undef), (50, undef), (49, undef), (48, undef), (47, .bool false), (46, .bool false), (45, undef), (44, undef), (43, undef)] (fun _ => by kernel_rfl) ?_
              refine WL.done rfl ?_
              refine QX.then_normal (hK452 _ _ ?_)
              refine WC.cond_false rfl ?_
              refine WC.skip ?_
              refine QX.then_normal (hK450 _ _ ?_)
              refine WC.seq (fun K523 hK524 => ?_)
              refine WC.drawC hC448 [b] (by kernel_rfl) (fun w525 hF526 hC527 hS528 => ?_)
              refine WD.pure (NoPanic.then hN) 0 72 (.pointer (some ⟨p, 0, none⟩)) (by kernel_rfl) (fun _ => by kernel_rfl) hS528 ?_
              refine WD.pure (NoPanic.then hN) 1 73 (.pointer (some ⟨p, 0, none⟩)) (by kernel_rfl) (fun _ => by kernel_rfl) hS528 ?_
              refine WD.pure (NoPanic.then hN) 2 74 (.pointer (some ⟨p, 0, none⟩)) (by kernel_rfl) (fun _ => by kernel_rfl) hS528 ?_
              refine WD.load (NoPanic.then hN) 3 71 (.pointer (some ⟨p, 0, none⟩)) (.map (some b)) 75 (by kernel_rfl) (by kernel_rfl) (fun _ hS_ => run_ld (Fr.has hS_ (hC527.get 0 rfl) (by simpa using hC527.ne 0 1 rfl rfl (by decide))) rfl) hS528 ?_
              refine WD.load (NoPanic.then hN) 4 32 (.pointer (some ⟨g3, 0, none⟩)) (.agg #[.int .i64 f.proto, .int .u32 f.src, .int .i64 f.sport, .int .u32 f.dst, .int .i64 f.dport]) 76 (by kernel_rfl) (by kernel_rfl) (fun _ hS_ => run_ld (Fr.has hS_ (hC527.get 2 rfl) (by simpa using hC527.ne 2 1 rfl rfl (by decide))) rfl) hS528 ?_
              refine WD.sem 5 (Instr.loadAt 34 (.pointer (some ⟨g18, 0, none⟩))) 77 (.agg #[.int .i64 xv10.flow.proto, .int .u32 xv10.flow.src, .int .i64 xv10.flow.sport, .int .u32 xv10.flow.dst, .int .i64 xv10.flow.dport, .int .u32 xv10.dip, .int .i64 xv10.epoch, .bool xv10.trusted, .bool false, .int .i64 now]) (by kernel_rfl) (by kernel_rfl) (run_ld (hC527.get 3 rfl) rfl) hS528 ?_
              obtain ⟨w529, es530, cl531, hr532, hF533, hC534, hm535⟩ := putM_run (P := Try.prog) (ek := encF) (ev := encE) hC527 1 rfl (show Try.prog.underlying 71 = some (.map 32 34) from by kernel_rfl) keyF hm_ f (⟨xv10.flow, xv10.dip, xv10.epoch, xv10.trusted, false, now⟩ : Ent)
              have hS536 := hS528.trans hF533 (by simp)
              refine WD.semU 6 (Instr.mapUpdate 71 (.map (some b)) (.agg #[.int .i64 f.proto, .int .u32 f.src, .int .i64 f.sport, .int .u32 f.dst, .int .i64 f.dport]) (.agg #[.int .i64 xv10.flow.proto, .int .u32 xv10.flow.src, .int .i64 xv10.flow.sport, .int .u32 xv10.flow.dst, .int .i64 xv10.flow.dport, .int .u32 xv10.dip, .int .i64 xv10.epoch, .bool xv10.trusted, .bool false, .int .i64 now])) (by kernel_rfl) (by kernel_rfl) hr532 hS536 ?_
              refine WD.done (by kernel_rfl) ?_
              refine QX.then_normal (hK524 _ _ ?_)
              refine WC.seq (fun K537 hK538 => ?_)
              refine WC.region ?_
              refine WL.runs 1 [(8, .bool true)] (fun _ => by kernel_rfl) ?_
              refine WL.done rfl ?_
              refine QX.then_normal (hK538 _ _ ?_)
              refine WC.ret ?_
              refine (hret _ _ _ rfl ?_).1
              clear hN hret hret' hK538 hK524 hK452 hK450 hK443 hK346 hK344 hK338 hK43 hK41 hK30 hK28 hK9 hK2
              have h_ : touchT T f flags now = ((⟨(putL T.m f (⟨xv10.flow, xv10.dip, xv10.epoch, xv10.trusted, false, now⟩ : Ent)), T.th, T.tm, T.uh, T.um⟩ : Tb), true) := by
                (first | contradiction | skip)
                all_goals unfold touchT
                all_goals rw [(look_some hxv11 (by rw [hbv13]; simpa using t31b))]
                all_goals simp [t31, t31b, t347, t347b, t37, t37b, t44, t444, t444b, t44b, t453, t453b]
                all_goals (try (intro hq_; exfalso; omega))
              rw [h_]
              exact ⟨rfl, hC534.fr, hpb, hC534.get 0 rfl, _, _, hC534.get 1 rfl, hm535⟩
          · -- (Go.bits .and .i64 flags 2) ≠ 0: false
            have t444 : (Go.bits .and .i64 flags 2) = 0 := by simpa using t444b
            refine WC.cond_false rfl ?_
            refine WC.skip ?_
            refine QX.block_normal ?_
            refine QX.then_normal (hK344 _ _ ?_)
            refine WC.seq (fun K539 hK540 => ?_)
            refine WC.seq (fun K541 hK542 => ?_)
            refine WC.region ?_
            refine WL.runs 1 [(39, .pointer (some ⟨g18, 7, none⟩))] (fun _ => by kernel_rfl) ?_
            refine WL.load 4 (.pointer (some ⟨g18, 7, none⟩)) (.bool xv10.trusted) 40 (by kernel_rfl) (run_ld (hC342.get 3 rfl) rfl) ?_
            refine WL.runs 2 [(42, .bool !xv10.trusted), (41, .bool !xv10.trusted)] (fun _ => by kernel_rfl) ?_
            refine WL.test_at 42 (!xv10.trusted) rfl (fun t543b => ?_) (fun t543b => ?_)
            · -- !xv10.trusted = true: true
              have t543 : xv10.trusted = false := by first | (simpa only [Bool.not_eq_true', Bool.not_eq_false'] using t543b) | simpa using t543b
              refine WL.runs 5 [(47, .bool ((Go.bits .and .i64 flags 2) == 0)), (46, .bool ((Go.bits .and .i64 flags 2) == 0)), (45, .bool ((Go.bits .and .i64 flags 2) == 0)), (44, .int .i64 (Go.bits .and .i64 flags 2)), (43, .int .i64 flags)] (fun _ => by kernel_rfl) ?_
              refine WL.test_at 47 ((Go.bits .and .i64 flags 2) == 0) rfl (fun t544b => ?_) (fun t544b => ?_)
              · -- (Go.bits .and .i64 flags 2) = 0: true
                have t544 : (Go.bits .and .i64 flags 2) = 0 := by simpa using t544b
                refine WL.runs 3 [(50, .pointer (some ⟨p, 1, none⟩)), (49, .pointer (some ⟨p, 0, none⟩)), (48, .pointer (some ⟨p, 0, none⟩))] (fun _ => by kernel_rfl) ?_
                refine WL.call rfl rfl rfl rfl rfl (by kernel_rfl) (room_ct p 1 T.th T.tm w339 (by rw [cell_blk (hC342.get 0 rfl)]; rfl) (by rw [cell_blk (hC342.get 0 rfl)]; rfl)) ?_
                rintro _ w546 ⟨rfl, hF545⟩
                refine ⟨_, rfl, ?_⟩
                have hC547 := hC342.call hF545
                refine WL.runs 1 [(52, .bool (decide (T.th < T.tm)))] (fun _ => by kernel_rfl) ?_
                refine WL.done rfl ?_
                refine QX.then_normal (hK542 _ _ ?_)
                refine WC.test_at 52 (decide (T.th < T.tm)) rfl (fun t548b => ?_) (fun t548b => ?_)
                · -- T.th < T.tm: true
                  have t548 : T.th < T.tm := by have q_ := of_decide_eq_true t548b; omega
                  refine WC.cond_true rfl ?_
                  refine WC.seq (fun K549 hK550 => ?_)
                  refine WC.region ?_
                  refine WL.runs 1 [(53, .pointer (some ⟨g18, 7, none⟩))] (fun _ => by kernel_rfl) ?_
                  refine WL.storeM (c' := #[.int .i64 xv10.flow.proto, .int .u32 xv10.flow.src, .int .i64 xv10.flow.sport, .int .u32 xv10.flow.dst, .int .i64 xv10.flow.dport, .int .u32 xv10.dip, .int .i64 xv10.epoch, .bool true, .bool xv10.closing, .int .i64 now]) hC547 3 4 g18 7 (.bool true) (by kernel_rfl) rfl (by kernel_rfl) (fun w551 hF553 hC554 => ?_)
                  refine WL.done rfl ?_
                  refine QX.then_normal (hK550 _ _ ?_)
                  refine WC.seq (fun K555 hK556 => ?_)
                  refine WC.region ?_
                  refine WL.runs 4 [(57, .pointer (some ⟨p, 3, none⟩)), (56, .pointer (some ⟨p, 3, none⟩)), (55, .pointer (some ⟨p, 0, none⟩)), (54, .pointer (some ⟨p, 0, none⟩))] (fun _ => by kernel_rfl) ?_
                  refine WL.load 3 (.pointer (some ⟨p, 3, none⟩)) (.int .i64 T.uh) 58 (by kernel_rfl) (run_ld (hC554.get 0 rfl) rfl) ?_
                  refine WL.runs 1 [(59, .int .i64 (IntKind.i64.wrap (T.uh - 1)))] (fun _ => by kernel_rfl) ?_
                  refine WL.recast (show (.int .i64 (IntKind.i64.wrap (T.uh - 1)) : Value) = .int .i64 (T.uh - 1) from by rw [wrap_in_i64 (T.uh - 1) (by omega) (by omega)]) ?_
                  refine WL.runs 3 [(62, .pointer (some ⟨p, 3, none⟩)), (61, .pointer (some ⟨p, 3, none⟩)), (60, .pointer (some ⟨p, 0, none⟩))] (fun _ => by kernel_rfl) ?_
                  refine WL.storeM (c' := #[.map (some b), .int .i64 T.th, .int .i64 T.tm, .int .i64 (T.uh - 1), .int .i64 T.um]) hC554 0 3 p 3 (.int .i64 (T.uh - 1)) (by kernel_rfl) rfl (by kernel_rfl) (fun w557 hF559 hC560 => ?_)
                  refine WL.done rfl ?_
                  refine QX.then_normal (hK556 _ _ ?_)
                  refine WC.region ?_
                  refine WL.runs 4 [(66, .pointer (some ⟨p, 1, none⟩)), (65, .pointer (some ⟨p, 1, none⟩)), (64, .pointer (some ⟨p, 0, none⟩)), (63, .pointer (some ⟨p, 0, none⟩))] (fun _ => by kernel_rfl) ?_
                  refine WL.load 3 (.pointer (some ⟨p, 1, none⟩)) (.int .i64 T.th) 67 (by kernel_rfl) (run_ld (hC560.get 0 rfl) rfl) ?_
                  refine WL.runs 1 [(68, .int .i64 (IntKind.i64.wrap (T.th + 1)))] (fun _ => by kernel_rfl) ?_
                  refine WL.recast (show (.int .i64 (IntKind.i64.wrap (T.th + 1)) : Value) = .int .i64 (T.th + 1) from by rw [wrap_in_i64 (T.th + 1) (by omega) (by omega)]) ?_
                  refine WL.runs 3 [(71, .pointer (some ⟨p, 1, none⟩)), (70, .pointer (some ⟨p, 1, none⟩)), (69, .pointer (some ⟨p, 0, none⟩))] (fun _ => by kernel_rfl) ?_
                  refine WL.storeM (c' := #[.map (some b), .int .i64 (T.th + 1), .int .i64 T.tm, .int .i64 (T.uh - 1), .int .i64 T.um]) hC560 0 3 p 1 (.int .i64 (T.th + 1)) (by kernel_rfl) rfl (by kernel_rfl) (fun w561 hF563 hC564 => ?_)
                  refine WL.done rfl ?_
                  refine QX.then_normal (hK540 _ _ ?_)
                  refine WC.seq (fun K565 hK566 => ?_)
                  refine WC.drawC hC564 [b] (by kernel_rfl) (fun w567 hF568 hC569 hS570 => ?_)
                  refine WD.pure (NoPanic.then hN) 0 72 (.pointer (some ⟨p, 0, none⟩)) (by kernel_rfl) (fun _ => by kernel_rfl) hS570 ?_
                  refine WD.pure (NoPanic.then hN) 1 73 (.pointer (some ⟨p, 0, none⟩)) (by kernel_rfl) (fun _ => by kernel_rfl) hS570 ?_
                  refine WD.pure (NoPanic.then hN) 2 74 (.pointer (some ⟨p, 0, none⟩)) (by kernel_rfl) (fun _ => by kernel_rfl) hS570 ?_
                  refine WD.load (NoPanic.then hN) 3 71 (.pointer (some ⟨p, 0, none⟩)) (.map (some b)) 75 (by kernel_rfl) (by kernel_rfl) (fun _ hS_ => run_ld (Fr.has hS_ (hC569.get 0 rfl) (by simpa using hC569.ne 0 1 rfl rfl (by decide))) rfl) hS570 ?_
                  refine WD.load (NoPanic.then hN) 4 32 (.pointer (some ⟨g3, 0, none⟩)) (.agg #[.int .i64 f.proto, .int .u32 f.src, .int .i64 f.sport, .int .u32 f.dst, .int .i64 f.dport]) 76 (by kernel_rfl) (by kernel_rfl) (fun _ hS_ => run_ld (Fr.has hS_ (hC569.get 2 rfl) (by simpa using hC569.ne 2 1 rfl rfl (by decide))) rfl) hS570 ?_
                  refine WD.sem 5 (Instr.loadAt 34 (.pointer (some ⟨g18, 0, none⟩))) 77 (.agg #[.int .i64 xv10.flow.proto, .int .u32 xv10.flow.src, .int .i64 xv10.flow.sport, .int .u32 xv10.flow.dst, .int .i64 xv10.flow.dport, .int .u32 xv10.dip, .int .i64 xv10.epoch, .bool true, .bool xv10.closing, .int .i64 now]) (by kernel_rfl) (by kernel_rfl) (run_ld (hC569.get 3 rfl) rfl) hS570 ?_
                  obtain ⟨w571, es572, cl573, hr574, hF575, hC576, hm577⟩ := putM_run (P := Try.prog) (ek := encF) (ev := encE) hC569 1 rfl (show Try.prog.underlying 71 = some (.map 32 34) from by kernel_rfl) keyF hm_ f (⟨xv10.flow, xv10.dip, xv10.epoch, true, xv10.closing, now⟩ : Ent)
                  have hS578 := hS570.trans hF575 (by simp)
                  refine WD.semU 6 (Instr.mapUpdate 71 (.map (some b)) (.agg #[.int .i64 f.proto, .int .u32 f.src, .int .i64 f.sport, .int .u32 f.dst, .int .i64 f.dport]) (.agg #[.int .i64 xv10.flow.proto, .int .u32 xv10.flow.src, .int .i64 xv10.flow.sport, .int .u32 xv10.flow.dst, .int .i64 xv10.flow.dport, .int .u32 xv10.dip, .int .i64 xv10.epoch, .bool true, .bool xv10.closing, .int .i64 now])) (by kernel_rfl) (by kernel_rfl) hr574 hS578 ?_
                  refine WD.done (by kernel_rfl) ?_
                  refine QX.then_normal (hK566 _ _ ?_)
                  refine WC.seq (fun K579 hK580 => ?_)
                  refine WC.region ?_
                  refine WL.runs 1 [(8, .bool true)] (fun _ => by kernel_rfl) ?_
                  refine WL.done rfl ?_
                  refine QX.then_normal (hK580 _ _ ?_)
                  refine WC.ret ?_
                  refine (hret _ _ _ rfl ?_).1
                  clear hN hret hret' hK580 hK566 hK556 hK550 hK542 hK540 hK443 hK346 hK344 hK338 hK43 hK41 hK30 hK28 hK9 hK2
                  have h_ : touchT T f flags now = ((⟨(putL T.m f (⟨xv10.flow, xv10.dip, xv10.epoch, true, xv10.closing, now⟩ : Ent)), T.th + 1, T.tm, T.uh - 1, T.um⟩ : Tb), true) := by
                    (first | contradiction | skip)
                    all_goals unfold touchT
                    all_goals rw [(look_some hxv11 (by rw [hbv13]; simpa using t31b))]
                    all_goals simp [t31, t31b, t347, t347b, t37, t37b, t44, t444, t444b, t44b, t543, t543b, t544, t544b, t548, t548b]
                    all_goals (try (intro hq_; exfalso; omega))
                  rw [h_]
                  exact ⟨rfl, hC576.fr, hpb, hC576.get 0 rfl, _, _, hC576.get 1 rfl, hm577⟩
                · -- T.th < T.tm: false
                  have t548 : T.tm ≤ T.th := by have q_ := of_decide_eq_false t548b; omega
                  refine WC.cond_false rfl ?_
                  refine WC.skip ?_
                  refine QX.then_normal (hK540 _ _ ?_)
                  refine WC.seq (fun K581 hK582 => ?_)
                  refine WC.drawC hC547 [b] (by kernel_rfl) (fun w583 hF584 hC585 hS586 => ?_)
                  refine WD.pure (NoPanic.then hN) 0 72 (.pointer (some ⟨p, 0, none⟩)) (by kernel_rfl) (fun _ => by kernel_rfl) hS586 ?_
                  refine WD.pure (NoPanic.then hN) 1 73 (.pointer (some ⟨p, 0, none⟩)) (by kernel_rfl) (fun _ => by kernel_rfl) hS586 ?_
                  refine WD.pure (NoPanic.then hN) 2 74 (.pointer (some ⟨p, 0, none⟩)) (by kernel_rfl) (fun _ => by kernel_rfl) hS586 ?_
                  refine WD.load (NoPanic.then hN) 3 71 (.pointer (some ⟨p, 0, none⟩)) (.map (some b)) 75 (by kernel_rfl) (by kernel_rfl) (fun _ hS_ => run_ld (Fr.has hS_ (hC585.get 0 rfl) (by simpa using hC585.ne 0 1 rfl rfl (by decide))) rfl) hS586 ?_
                  refine WD.load (NoPanic.then hN) 4 32 (.pointer (some ⟨g3, 0, none⟩)) (.agg #[.int .i64 f.proto, .int .u32 f.src, .int .i64 f.sport, .int .u32 f.dst, .int .i64 f.dport]) 76 (by kernel_rfl) (by kernel_rfl) (fun _ hS_ => run_ld (Fr.has hS_ (hC585.get 2 rfl) (by simpa using hC585.ne 2 1 rfl rfl (by decide))) rfl) hS586 ?_
                  refine WD.sem 5 (Instr.loadAt 34 (.pointer (some ⟨g18, 0, none⟩))) 77 (.agg #[.int .i64 xv10.flow.proto, .int .u32 xv10.flow.src, .int .i64 xv10.flow.sport, .int .u32 xv10.flow.dst, .int .i64 xv10.flow.dport, .int .u32 xv10.dip, .int .i64 xv10.epoch, .bool xv10.trusted, .bool xv10.closing, .int .i64 now]) (by kernel_rfl) (by kernel_rfl) (run_ld (hC585.get 3 rfl) rfl) hS586 ?_
                  obtain ⟨w587, es588, cl589, hr590, hF591, hC592, hm593⟩ := putM_run (P := Try.prog) (ek := encF) (ev := encE) hC585 1 rfl (show Try.prog.underlying 71 = some (.map 32 34) from by kernel_rfl) keyF hm_ f (⟨xv10.flow, xv10.dip, xv10.epoch, xv10.trusted, xv10.closing, now⟩ : Ent)
                  have hS594 := hS586.trans hF591 (by simp)
                  refine WD.semU 6 (Instr.mapUpdate 71 (.map (some b)) (.agg #[.int .i64 f.proto, .int .u32 f.src, .int .i64 f.sport, .int .u32 f.dst, .int .i64 f.dport]) (.agg #[.int .i64 xv10.flow.proto, .int .u32 xv10.flow.src, .int .i64 xv10.flow.sport, .int .u32 xv10.flow.dst, .int .i64 xv10.flow.dport, .int .u32 xv10.dip, .int .i64 xv10.epoch, .bool xv10.trusted, .bool xv10.closing, .int .i64 now])) (by kernel_rfl) (by kernel_rfl) hr590 hS594 ?_
                  refine WD.done (by kernel_rfl) ?_
                  refine QX.then_normal (hK582 _ _ ?_)
                  refine WC.seq (fun K595 hK596 => ?_)
                  refine WC.region ?_
                  refine WL.runs 1 [(8, .bool true)] (fun _ => by kernel_rfl) ?_
                  refine WL.done rfl ?_
                  refine QX.then_normal (hK596 _ _ ?_)
                  refine WC.ret ?_
                  refine (hret _ _ _ rfl ?_).1
                  clear hN hret hret' hK596 hK582 hK542 hK540 hK443 hK346 hK344 hK338 hK43 hK41 hK30 hK28 hK9 hK2
                  have h_ : touchT T f flags now = ((⟨(putL T.m f (⟨xv10.flow, xv10.dip, xv10.epoch, xv10.trusted, xv10.closing, now⟩ : Ent)), T.th, T.tm, T.uh, T.um⟩ : Tb), true) := by
                    (first | contradiction | skip)
                    all_goals unfold touchT
                    all_goals rw [(look_some hxv11 (by rw [hbv13]; simpa using t31b))]
                    all_goals simp [t31, t31b, t347, t347b, t37, t37b, t44, t444, t444b, t44b, t543, t543b, t544, t544b, t548, t548b]
                    all_goals (try (intro hq_; exfalso; omega))
                  rw [h_]
                  exact ⟨rfl, hC592.fr, hpb, hC592.get 0 rfl, _, _, hC592.get 1 rfl, hm593⟩
              · -- (Go.bits .and .i64 flags 2) = 0: false
                have t544 : ¬ ((Go.bits .and .i64 flags 2) = 0) := by simpa using t544b
                refine WL.runs 5 [(52, .bool false), (51, undef), (50, undef), (49, undef), (48, undef)] (fun _ => by kernel_rfl) ?_
                refine WL.done rfl ?_
                refine QX.then_normal (hK542 _ _ ?_)
                refine WC.cond_false rfl ?_
                refine WC.skip ?_
                refine QX.then_normal (hK540 _ _ ?_)
                refine WC.seq (fun K597 hK598 => ?_)
                refine WC.drawC hC342 [b] (by kernel_rfl) (fun w599 hF600 hC601 hS602 => ?_)
                refine WD.pure (NoPanic.then hN) 0 72 (.pointer (some ⟨p, 0, none⟩)) (by kernel_rfl) (fun _ => by kernel_rfl) hS602 ?_
                refine WD.pure (NoPanic.then hN) 1 73 (.pointer (some ⟨p, 0, none⟩)) (by kernel_rfl) (fun _ => by kernel_rfl) hS602 ?_
                refine WD.pure (NoPanic.then hN) 2 74 (.pointer (some ⟨p, 0, none⟩)) (by kernel_rfl) (fun _ => by kernel_rfl) hS602 ?_
                refine WD.load (NoPanic.then hN) 3 71 (.pointer (some ⟨p, 0, none⟩)) (.map (some b)) 75 (by kernel_rfl) (by kernel_rfl) (fun _ hS_ => run_ld (Fr.has hS_ (hC601.get 0 rfl) (by simpa using hC601.ne 0 1 rfl rfl (by decide))) rfl) hS602 ?_
                refine WD.load (NoPanic.then hN) 4 32 (.pointer (some ⟨g3, 0, none⟩)) (.agg #[.int .i64 f.proto, .int .u32 f.src, .int .i64 f.sport, .int .u32 f.dst, .int .i64 f.dport]) 76 (by kernel_rfl) (by kernel_rfl) (fun _ hS_ => run_ld (Fr.has hS_ (hC601.get 2 rfl) (by simpa using hC601.ne 2 1 rfl rfl (by decide))) rfl) hS602 ?_
                refine WD.sem 5 (Instr.loadAt 34 (.pointer (some ⟨g18, 0, none⟩))) 77 (.agg #[.int .i64 xv10.flow.proto, .int .u32 xv10.flow.src, .int .i64 xv10.flow.sport, .int .u32 xv10.flow.dst, .int .i64 xv10.flow.dport, .int .u32 xv10.dip, .int .i64 xv10.epoch, .bool xv10.trusted, .bool xv10.closing, .int .i64 now]) (by kernel_rfl) (by kernel_rfl) (run_ld (hC601.get 3 rfl) rfl) hS602 ?_
                obtain ⟨w603, es604, cl605, hr606, hF607, hC608, hm609⟩ := putM_run (P := Try.prog) (ek := encF) (ev := encE) hC601 1 rfl (show Try.prog.underlying 71 = some (.map 32 34) from by kernel_rfl) keyF hm_ f (⟨xv10.flow, xv10.dip, xv10.epoch, xv10.trusted, xv10.closing, now⟩ : Ent)
                have hS610 := hS602.trans hF607 (by simp)
                refine WD.semU 6 (Instr.mapUpdate 71 (.map (some b)) (.agg #[.int .i64 f.proto, .int .u32 f.src, .int .i64 f.sport, .int .u32 f.dst, .int .i64 f.dport]) (.agg #[.int .i64 xv10.flow.proto, .int .u32 xv10.flow.src, .int .i64 xv10.flow.sport, .int .u32 xv10.flow.dst, .int .i64 xv10.flow.dport, .int .u32 xv10.dip, .int .i64 xv10.epoch, .bool xv10.trusted, .bool xv10.closing, .int .i64 now])) (by kernel_rfl) (by kernel_rfl) hr606 hS610 ?_
                refine WD.done (by kernel_rfl) ?_
                refine QX.then_normal (hK598 _ _ ?_)
                refine WC.seq (fun K611 hK612 => ?_)
                refine WC.region ?_
                refine WL.runs 1 [(8, .bool true)] (fun _ => by kernel_rfl) ?_
                refine WL.done rfl ?_
                refine QX.then_normal (hK612 _ _ ?_)
                refine WC.ret ?_
                refine (hret _ _ _ rfl ?_).1
                clear hN hret hret' hK612 hK598 hK542 hK540 hK443 hK346 hK344 hK338 hK43 hK41 hK30 hK28 hK9 hK2
                have h_ : touchT T f flags now = ((⟨(putL T.m f (⟨xv10.flow, xv10.dip, xv10.epoch, xv10.trusted, xv10.closing, now⟩ : Ent)), T.th, T.tm, T.uh, T.um⟩ : Tb), true) := by
                  (first | contradiction | skip)
                  all_goals unfold touchT
                  all_goals rw [(look_some hxv11 (by rw [hbv13]; simpa using t31b))]
                  all_goals simp [t31, t31b, t347, t347b, t37, t37b, t44, t444, t444b, t44b, t543, t543b, t544, t544b]
                  all_goals (try (intro hq_; exfalso; omega))
                rw [h_]
                exact ⟨rfl, hC608.fr, hpb, hC608.get 0 rfl, _, _, hC608.get 1 rfl, hm609⟩
            · -- !xv10.trusted = true: false
              have t543 : xv10.trusted = true := by first | (simpa only [Bool.not_eq_true', Bool.not_eq_false'] using t543b) | simpa using t543b
              refine WL.runs 10 [(52, .bool false), (51, undef), (50, undef), (49, undef), (48, undef), (47, .bool false), (46, .bool false), (45, undef), (44, undef), (43, undef)] (fun _ => by kernel_rfl) ?_
              refine WL.done rfl ?_
              refine QX.then_normal (hK542 _ _ ?_)
              refine WC.cond_false rfl ?_
              refine WC.skip ?_
              refine QX.then_normal (hK540 _ _ ?_)
              refine WC.seq (fun K613 hK614 => ?_)
              refine WC.drawC hC342 [b] (by kernel_rfl) (fun w615 hF616 hC617 hS618 => ?_)
              refine WD.pure (NoPanic.then hN) 0 72 (.pointer (some ⟨p, 0, none⟩)) (by kernel_rfl) (fun _ => by kernel_rfl) hS618 ?_
              refine WD.pure (NoPanic.then hN) 1 73 (.pointer (some ⟨p, 0, none⟩)) (by kernel_rfl) (fun _ => by kernel_rfl) hS618 ?_
              refine WD.pure (NoPanic.then hN) 2 74 (.pointer (some ⟨p, 0, none⟩)) (by kernel_rfl) (fun _ => by kernel_rfl) hS618 ?_
              refine WD.load (NoPanic.then hN) 3 71 (.pointer (some ⟨p, 0, none⟩)) (.map (some b)) 75 (by kernel_rfl) (by kernel_rfl) (fun _ hS_ => run_ld (Fr.has hS_ (hC617.get 0 rfl) (by simpa using hC617.ne 0 1 rfl rfl (by decide))) rfl) hS618 ?_
              refine WD.load (NoPanic.then hN) 4 32 (.pointer (some ⟨g3, 0, none⟩)) (.agg #[.int .i64 f.proto, .int .u32 f.src, .int .i64 f.sport, .int .u32 f.dst, .int .i64 f.dport]) 76 (by kernel_rfl) (by kernel_rfl) (fun _ hS_ => run_ld (Fr.has hS_ (hC617.get 2 rfl) (by simpa using hC617.ne 2 1 rfl rfl (by decide))) rfl) hS618 ?_
              refine WD.sem 5 (Instr.loadAt 34 (.pointer (some ⟨g18, 0, none⟩))) 77 (.agg #[.int .i64 xv10.flow.proto, .int .u32 xv10.flow.src, .int .i64 xv10.flow.sport, .int .u32 xv10.flow.dst, .int .i64 xv10.flow.dport, .int .u32 xv10.dip, .int .i64 xv10.epoch, .bool xv10.trusted, .bool xv10.closing, .int .i64 now]) (by kernel_rfl) (by kernel_rfl) (run_ld (hC617.get 3 rfl) rfl) hS618 ?_
              obtain ⟨w619, es620, cl621, hr622, hF623, hC624, hm625⟩ := putM_run (P := Try.prog) (ek := encF) (ev := encE) hC617 1 rfl (show Try.prog.underlying 71 = some (.map 32 34) from by kernel_rfl) keyF hm_ f (⟨xv10.flow, xv10.dip, xv10.epoch, xv10.trusted, xv10.closing, now⟩ : Ent)
              have hS626 := hS618.trans hF623 (by simp)
              refine WD.semU 6 (Instr.mapUpdate 71 (.map (some b)) (.agg #[.int .i64 f.proto, .int .u32 f.src, .int .i64 f.sport, .int .u32 f.dst, .int .i64 f.dport]) (.agg #[.int .i64 xv10.flow.proto, .int .u32 xv10.flow.src, .int .i64 xv10.flow.sport, .int .u32 xv10.flow.dst, .int .i64 xv10.flow.dport, .int .u32 xv10.dip, .int .i64 xv10.epoch, .bool xv10.trusted, .bool xv10.closing, .int .i64 now])) (by kernel_rfl) (by kernel_rfl) hr622 hS626 ?_
              refine WD.done (by kernel_rfl) ?_
              refine QX.then_normal (hK614 _ _ ?_)
              refine WC.seq (fun K627 hK628 => ?_)
              refine WC.region ?_
              refine WL.runs 1 [(8, .bool true)] (fun _ => by kernel_rfl) ?_
              refine WL.done rfl ?_
              refine QX.then_normal (hK628 _ _ ?_)
              refine WC.ret ?_
              refine (hret _ _ _ rfl ?_).1
              clear hN hret hret' hK628 hK614 hK542 hK540 hK443 hK346 hK344 hK338 hK43 hK41 hK30 hK28 hK9 hK2
              have h_ : touchT T f flags now = ((⟨(putL T.m f (⟨xv10.flow, xv10.dip, xv10.epoch, xv10.trusted, xv10.closing, now⟩ : Ent)), T.th, T.tm, T.uh, T.um⟩ : Tb), true) := by
                (first | contradiction | skip)
                all_goals unfold touchT
                all_goals rw [(look_some hxv11 (by rw [hbv13]; simpa using t31b))]
                all_goals simp [t31, t31b, t347, t347b, t37, t37b, t44, t444, t444b, t44b, t543, t543b]
                all_goals (try (intro hq_; exfalso; omega))
              rw [h_]
              exact ⟨rfl, hC624.fr, hpb, hC624.get 0 rfl, _, _, hC624.get 1 rfl, hm625⟩

theorem Touch_nil (f : Flow) (flags now : Int) (w : World) : Calls Try.prog 13 #[.pointer none, .agg #[.int .i64 f.proto, .int .u32 f.src, .int .i64 f.sport, .int .u32 f.dst, .int .i64 f.dport], .int .i64 flags, .int .i64 now] w fun e w' => e = .returned (.bool false) ∧ Fr w w' [] := by
  refine enterD (n := 78) Try.func13 rfl rfl (Nat.le_of_ble_eq_true rfl) ?_
  intro Q0 hN hret hret'
  have hC := Cx.start w
  refine WC.seq (fun K1 hK2 => ?_)
  refine WC.region ?_
  refine WL.newM hC (fun b => .pointer (some ⟨b, 0, none⟩)) (.cells #[.int .i64 f.proto, .int .u32 f.src, .int .i64 f.sport, .int .u32 f.dst, .int .i64 f.dport] 32) 5 (fun _ => by kernel_rfl) (fun g3 w4 hb7 hF5 hC6 => ?_)
  refine WL.runs 1 [(8, .bool false)] (fun _ => by kernel_rfl) ?_
  refine WL.done rfl ?_
  refine QX.then_normal (hK2 _ _ ?_)
  refine WC.seq (fun K8 hK9 => ?_)
  refine WC.region ?_
  refine WL.runs 1 [(12, .pointer none)] (fun _ => by kernel_rfl) ?_
  refine WL.load 32 (.pointer (some ⟨g3, 0, none⟩)) (.agg #[.int .i64 f.proto, .int .u32 f.src, .int .i64 f.sport, .int .u32 f.dst, .int .i64 f.dport]) 13 (by kernel_rfl) (run_ld (hC6.get 0 rfl) rfl) ?_
  refine WL.call rfl rfl rfl rfl rfl (by kernel_rfl) (Get_nil f w4) ?_
  rintro _ w11 ⟨rfl, hF10⟩
  refine ⟨_, rfl, ?_⟩
  have hC12 := hC6.call hF10
  refine WL.runs 3 [(16, .bool false), (15, .agg #[.int .i64 zeroE.flow.proto, .int .u32 zeroE.flow.src, .int .i64 zeroE.flow.sport, .int .u32 zeroE.flow.dst, .int .i64 zeroE.flow.dport, .int .u32 zeroE.dip, .int .i64 zeroE.epoch, .bool zeroE.trusted, .bool zeroE.closing, .int .i64 zeroE.last]), (11, .tuple #[.agg #[.int .i64 zeroE.flow.proto, .int .u32 zeroE.flow.src, .int .i64 zeroE.flow.sport, .int .u32 zeroE.flow.dst, .int .i64 zeroE.flow.dport, .int .u32 zeroE.dip, .int .i64 zeroE.epoch, .bool zeroE.trusted, .bool zeroE.closing, .int .i64 zeroE.last], .bool false])] (fun _ => by kernel_rfl) ?_
  refine WL.newM hC12 (fun b => .pointer (some ⟨b, 0, none⟩)) (.cells #[.int .i64 0, .int .u32 0, .int .i64 0, .int .u32 0, .int .i64 0, .int .u32 0, .int .i64 0, .bool false, .bool false, .int .i64 0] 34) 9 (fun _ => by kernel_rfl) (fun g13 w14 hb17 hF15 hC16 => ?_)
  refine WL.storeM (c' := #[.int .i64 zeroE.flow.proto, .int .u32 zeroE.flow.src, .int .i64 zeroE.flow.sport, .int .u32 zeroE.flow.dst, .int .i64 zeroE.flow.dport, .int .u32 zeroE.dip, .int .i64 zeroE.epoch, .bool zeroE.trusted, .bool zeroE.closing, .int .i64 zeroE.last]) hC16 1 34 g13 0 (.agg #[.int .i64 zeroE.flow.proto, .int .u32 zeroE.flow.src, .int .i64 zeroE.flow.sport, .int .u32 zeroE.flow.dst, .int .i64 zeroE.flow.dport, .int .u32 zeroE.dip, .int .i64 zeroE.epoch, .bool zeroE.trusted, .bool zeroE.closing, .int .i64 zeroE.last]) (by kernel_rfl) rfl (by kernel_rfl) (fun w18 hF20 hC21 => ?_)
  refine WL.runs 1 [(10, .bool false)] (fun _ => by kernel_rfl) ?_
  refine WL.done rfl ?_
  refine QX.then_normal (hK9 _ _ ?_)
  refine WC.seq (fun K22 hK23 => ?_)
  refine WC.seq (fun K24 hK25 => ?_)
  refine WC.region ?_
  refine WL.runs 7 [(23, .bool true), (22, undef), (21, undef), (20, undef), (19, .bool true), (18, .bool true), (17, .bool false)] (fun _ => by kernel_rfl) ?_
  refine WL.done rfl ?_
  refine QX.then_normal (hK25 _ _ ?_)
  refine WC.cond_true rfl ?_
  refine WC.seq (fun K26 hK27 => ?_)
  refine WC.region ?_
  refine WL.runs 1 [(8, .bool false)] (fun _ => by kernel_rfl) ?_
  refine WL.done rfl ?_
  refine QX.then_normal (hK27 _ _ ?_)
  refine WC.ret ?_
  refine QX.then_ret ?_
  refine (hret _ _ _ rfl ?_).1
  clear hN hret hret' hK27 hK25 hK23 hK9 hK2
  exact ⟨rfl, hC21.fr⟩

theorem Len_nil  (w : World) : Calls Try.prog 27 #[.pointer none] w fun e w' => e = .returned (.tuple #[.int .i64 0, .int .i64 0]) ∧ Fr w w' [] := by
  refine enterD (n := 16) Try.func27 rfl rfl (Nat.le_of_ble_eq_true rfl) ?_
  intro Q0 hN hret hret'
  have hC := Cx.start w
  refine WC.seq (fun K1 hK2 => ?_)
  refine WC.region ?_
  refine WL.runs 2 [(3, .int .i64 0), (2, .int .i64 0)] (fun _ => by kernel_rfl) ?_
  refine WL.done rfl ?_
  refine QX.then_normal (hK2 _ _ ?_)
  refine WC.seq (fun K3 hK4 => ?_)
  refine WC.seq (fun K5 hK6 => ?_)
  refine WC.region ?_
  refine WL.runs 2 [(5, .bool true), (4, .pointer none)] (fun _ => by kernel_rfl) ?_
  refine WL.done rfl ?_
  refine QX.then_normal (hK6 _ _ ?_)
  refine WC.cond_true rfl ?_
  refine WC.seq (fun K7 hK8 => ?_)
  refine WC.region ?_
  refine WL.runs 2 [(3, .int .i64 0), (2, .int .i64 0)] (fun _ => by kernel_rfl) ?_
  refine WL.done rfl ?_
  refine QX.then_normal (hK8 _ _ ?_)
  refine WC.ret ?_
  refine QX.then_ret ?_
  refine (hret _ _ _ rfl ?_).1
  clear hN hret hret' hK8 hK6 hK4 hK2
  exact ⟨rfl, hC.fr⟩

theorem All_nil  (w : World) : Calls Try.prog 17 #[.pointer none] w fun e w' => e = .returned (.slice none 0 0) ∧ Fr w w' [] := by
  refine enterD (n := 24) Try.func17 rfl rfl (Nat.le_of_ble_eq_true rfl) ?_
  intro Q0 hN hret hret'
  have hC := Cx.start w
  refine WC.seq (fun K1 hK2 => ?_)
  refine WC.region ?_
  refine WL.runs 1 [(2, .slice none 0 0)] (fun _ => by kernel_rfl) ?_
  refine WL.done rfl ?_
  refine QX.then_normal (hK2 _ _ ?_)
  refine WC.seq (fun K3 hK4 => ?_)
  refine WC.seq (fun K5 hK6 => ?_)
  refine WC.region ?_
  refine WL.runs 2 [(7, .bool true), (6, .pointer none)] (fun _ => by kernel_rfl) ?_
  refine WL.done rfl ?_
  refine QX.then_normal (hK6 _ _ ?_)
  refine WC.cond_true rfl ?_
  refine WC.seq (fun K7 hK8 => ?_)
  refine WC.region ?_
  refine WL.runs 1 [(2, .slice none 0 0)] (fun _ => by kernel_rfl) ?_
  refine WL.done rfl ?_
  refine QX.then_normal (hK8 _ _ ?_)
  refine WC.ret ?_
  refine QX.then_ret ?_
  refine (hret _ _ _ rfl ?_).1
  clear hN hret hret' hK8 hK6 hK4 hK2
  exact ⟨rfl, hC.fr⟩

theorem Expire_nil (now : Int) (w : World) : Calls Try.prog 15 #[.pointer none, .int .i64 now] w fun e w' => e = .returned (.slice none 0 0) ∧ Fr w w' [] := by
  refine enterD (n := 31) Try.func15 rfl rfl (Nat.le_of_ble_eq_true rfl) ?_
  intro Q0 hN hret hret'
  have hC := Cx.start w
  refine WC.seq (fun K1 hK2 => ?_)
  refine WC.region ?_
  refine WL.runs 1 [(4, .slice none 0 0)] (fun _ => by kernel_rfl) ?_
  refine WL.done rfl ?_
  refine QX.then_normal (hK2 _ _ ?_)
  refine WC.seq (fun K3 hK4 => ?_)
  refine WC.seq (fun K5 hK6 => ?_)
  refine WC.region ?_
  refine WL.runs 1 [(8, .int .i64 now)] (fun _ => by kernel_rfl) ?_
  refine WL.call rfl rfl rfl rfl rfl (by kernel_rfl) (goodTime_ct now w) ?_
  rintro _ w8 ⟨rfl, hF7⟩
  refine ⟨_, rfl, ?_⟩
  have hC9 := hC.call hF7
  refine WL.runs 1 [(10, .bool (!(goodTime now)))] (fun _ => by kernel_rfl) ?_
  refine WL.done rfl ?_
  refine QX.then_normal (hK6 _ _ ?_)
  refine WC.test_at 10 (!(goodTime now)) rfl (fun t10b => ?_) (fun t10b => ?_)
  · -- (!(goodTime now)) = true: true
    have t10 : (goodTime now) = false := by first | (simpa only [Bool.not_eq_true', Bool.not_eq_false'] using t10b) | simpa using t10b
    refine WC.cond_true rfl ?_
    refine WC.seq (fun K11 hK12 => ?_)
    refine WC.region ?_
    refine WL.runs 1 [(4, .slice none 0 0)] (fun _ => by kernel_rfl) ?_
    refine WL.done rfl ?_
    refine QX.then_normal (hK12 _ _ ?_)
    refine WC.ret ?_
    refine QX.then_ret ?_
    refine (hret _ _ _ rfl ?_).1
    clear hN hret hret' hK12 hK6 hK4 hK2
    exact ⟨rfl, hC9.fr⟩
  · -- (!(goodTime now)) = true: false
    have t10 : (goodTime now) = true := by first | (simpa only [Bool.not_eq_true', Bool.not_eq_false'] using t10b) | simpa using t10b
    refine WC.cond_false rfl ?_
    refine WC.skip ?_
    refine QX.then_normal (hK4 _ _ ?_)
    refine WC.seq (fun K13 hK14 => ?_)
    refine WC.region ?_
    refine WL.runs 1 [(5, .slice none 0 0)] (fun _ => by kernel_rfl) ?_
    refine WL.done rfl ?_
    refine QX.then_normal (hK14 _ _ ?_)
    refine WC.seq (fun K15 hK16 => ?_)
    refine WC.seq (fun K17 hK18 => ?_)
    refine WC.region ?_
    refine WL.runs 1 [(11, .pointer none)] (fun _ => by kernel_rfl) ?_
    refine WL.call rfl rfl rfl rfl rfl (by kernel_rfl) (All_nil w8) ?_
    rintro _ w20 ⟨rfl, hF19⟩
    refine ⟨_, rfl, ?_⟩
    have hC21 := hC9.call hF19
    refine WL.runs 2 [(14, .int .i64 0), (13, .int .i64 0)] (fun _ => by kernel_rfl) ?_
    refine WL.done rfl ?_
    refine QX.then_normal (hK18 _ _ ?_)
    refine WC.block ?_
    refine WC.loop (fun m_ E_ w_ => ∃ (k : Nat), m_ = k ∧ E_ = [(0, .pointer none), (1, .int .i64 now), (4, .slice none 0 0), (5, .slice none 0 0), (8, .int .i64 now), (9, .bool (goodTime now)), (10, .bool false), (11, .pointer none), (12, .slice none 0 0), (13, .int .i64 0), (14, .int .i64 0)] ∧ Cx w [] w_ [] [] ∧ (True)) ⟨_, _, ⟨0, rfl, rfl, hC21, trivial⟩, sub_of ⟨rfl, rfl, rfl, rfl, rfl, rfl, rfl, rfl, rfl, rfl, rfl, trivial⟩⟩ (fun m25 E_ w26 K22 hK23 hI24 => ?_)
    obtain ⟨k, rfl, rfl, hC27, hinvm25⟩ := hI24
    refine WC.seq (fun K28 hK29 => ?_)
    refine WC.region ?_
    refine WL.runs 1 [(15, .bool false)] (fun _ => by kernel_rfl) ?_
    refine WL.done rfl ?_
    refine QX.then_normal (hK29 _ _ ?_)
    refine WC.seq (fun K30 hK31 => ?_)
    refine WC.cond_false rfl ?_
    refine WC.exit ?_
    refine QX.then_exit ?_
    refine QX.then_exit ?_
    refine QX.block_hit ?_
    refine QX.then_normal (hK16 _ _ ?_)
    refine WC.seq (fun K32 hK33 => ?_)
    refine WC.region ?_
    refine WL.runs 2 [(28, .slice none 0 0), (27, .pointer none)] (fun _ => by kernel_rfl) ?_
    refine WL.call rfl rfl rfl rfl rfl (by kernel_rfl) (Remove_nil none 0 [] w26 (Rd.nil _ _ _ _) (by simp)) ?_
    rintro _ w35 ⟨rfl, hF34⟩
    refine ⟨_, rfl, ?_⟩
    have hC36 := hC27.call hF34
    refine WL.done rfl ?_
    refine QX.then_normal (hK33 _ _ ?_)
    refine WC.seq (fun K37 hK38 => ?_)
    refine WC.region ?_
    refine WL.runs 2 [(4, .slice none 0 0), (30, .slice none 0 0)] (fun _ => by kernel_rfl) ?_
    refine WL.done rfl ?_
    refine QX.then_normal (hK38 _ _ ?_)
    refine WC.ret ?_
    refine (hret _ _ _ rfl ?_).1
    clear hN hret hret' hK38 hK33 hK31 hK29 hK18 hK16 hK14 hK6 hK4 hK2
    exact ⟨rfl, hC36.fr⟩

end Go.Proofs.Ytimphmcoafapgaa
