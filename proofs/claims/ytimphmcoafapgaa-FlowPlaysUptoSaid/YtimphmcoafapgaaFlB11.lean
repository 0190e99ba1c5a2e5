/- Contracts of functions of the program, each proved by a walk through its code; conditions stand in the statements. -/
import Derived.Test.YtimphmcoafapgaaFlA11
namespace Go.Proofs.Ytimphmcoafapgaa
set_option linter.unusedSimpArgs false
set_option linter.unusedVariables false
set_option linter.unusedSectionVars false
open Go Go.RowKit Go.Tw
set_option linter.unusedVariables false
set_option maxRecDepth 20000
theorem Get_nil (f : Flow) (w : World) : Calls Try.prog 22 #[.pointer none, .agg #[.int .i64 f.proto, .int .u32 f.src, .int .i64 f.sport, .int .u32 f.dst, .int .i64 f.dport]] w fun e w' => e = .returned (.tuple #[.agg #[.int .i64 zeroE.flow.proto, .int .u32 zeroE.flow.src, .int .i64 zeroE.flow.sport, .int .u32 zeroE.flow.dst, .int .i64 zeroE.flow.dport, .int .u32 zeroE.dip, .int .i64 zeroE.epoch, .bool zeroE.trusted, .bool zeroE.closing, .int .i64 zeroE.last], .bool false]) ∧ Fr w w' [] := by
  refine enterD (n := 22) Try.func22 rfl rfl (Nat.le_of_ble_eq_true rfl) ?_
  intro Q0 hN hret hret'
  have hC := Cx.start w
  refine WC.seq (fun K1 hK2 => ?_)
  refine WC.region ?_
  refine WL.newM hC (fun b => .pointer (some ⟨b, 0, none⟩)) (.cells #[.int .i64 f.proto, .int .u32 f.src, .int .i64 f.sport, .int .u32 f.dst, .int .i64 f.dport] 32) 3 (fun _ => by kernel_rfl) (fun g3 w4 hb7 hF5 hC6 => ?_)
  refine WL.newM hC6 (fun b => .pointer (some ⟨b, 0, none⟩)) (.cells #[.int .i64 0, .int .u32 0, .int .i64 0, .int .u32 0, .int .i64 0, .int .u32 0, .int .i64 0, .bool false, .bool false, .int .i64 0] 34) 4 (fun _ => by kernel_rfl) (fun g8 w9 hb12 hF10 hC11 => ?_)
  refine WL.runs 1 [(5, .bool false)] (fun _ => by kernel_rfl) ?_
  refine WL.done rfl ?_
  refine QX.then_normal (hK2 _ _ ?_)
  refine WC.seq (fun K13 hK14 => ?_)
  refine WC.seq (fun K15 hK16 => ?_)
  refine WC.region ?_
  refine WL.runs 2 [(9, .bool true), (8, .pointer none)] (fun _ => by kernel_rfl) ?_
  refine WL.done rfl ?_
  refine QX.then_normal (hK16 _ _ ?_)
  refine WC.cond_true rfl ?_
  refine WC.seq (fun K17 hK18 => ?_)
  refine WC.region ?_
  refine WL.runs 1 [(10, .agg #[.int .i64 0, .int .u32 0, .int .i64 0, .int .u32 0, .int .i64 0, .int .u32 0, .int .i64 0, .bool false, .bool false, .int .i64 0])] (fun _ => by kernel_rfl) ?_
  refine WL.storeM (c' := #[.int .i64 0, .int .u32 0, .int .i64 0, .int .u32 0, .int .i64 0, .int .u32 0, .int .i64 0, .bool false, .bool false, .int .i64 0]) hC11 1 34 g8 0 (.agg #[.int .i64 0, .int .u32 0, .int .i64 0, .int .u32 0, .int .i64 0, .int .u32 0, .int .i64 0, .bool false, .bool false, .int .i64 0]) (by kernel_rfl) rfl (by kernel_rfl) (fun w19 hF21 hC22 => ?_)
  refine WL.runs 1 [(5, .bool false)] (fun _ => by kernel_rfl) ?_
  refine WL.done rfl ?_
  refine QX.then_normal (hK18 _ _ ?_)
  refine WC.ret ?_
  refine QX.then_ret ?_
  refine (hret' _ _ (.tuple #[.agg #[.int .i64 0, .int .u32 0, .int .i64 0, .int .u32 0, .int .i64 0, .int .u32 0, .int .i64 0, .bool false, .bool false, .int .i64 0], .bool false]) (fun a ha => ?_) ?_).1
  · exact res_run ha ((ResR.cell rfl (run_ld (hC22.get 1 rfl) rfl) (ResR.tmp rfl ResR.nil))) rfl
  clear hN hret hret' hK18 hK16 hK14 hK2
  exact ⟨rfl, hC22.fr⟩

theorem Get_ct (p b : Nat) (T : Tb) (f : Flow) (w : World) (ht : tbAt w p b T) : Calls Try.prog 22 #[.pointer (some ⟨p, 0, none⟩), .agg #[.int .i64 f.proto, .int .u32 f.src, .int .i64 f.sport, .int .u32 f.dst, .int .i64 f.dport]] w fun e w' => e = .returned (.tuple #[.agg #[.int .i64 (((lookL T.m f).getD zeroE).flow.proto), .int .u32 (((lookL T.m f).getD zeroE).flow.src), .int .i64 (((lookL T.m f).getD zeroE).flow.sport), .int .u32 (((lookL T.m f).getD zeroE).flow.dst), .int .i64 (((lookL T.m f).getD zeroE).flow.dport), .int .u32 (((lookL T.m f).getD zeroE).dip), .int .i64 (((lookL T.m f).getD zeroE).epoch), .bool (((lookL T.m f).getD zeroE).trusted), .bool (((lookL T.m f).getD zeroE).closing), .int .i64 (((lookL T.m f).getD zeroE).last)], .bool (lookL T.m f).isSome]) ∧ Fr w w' [] := by
  refine enterD (n := 22) Try.func22 rfl rfl (Nat.le_of_ble_eq_true rfl) ?_
  intro Q0 hN hret hret'
  obtain ⟨hpb, hp_, es, cl, hb_, hm_⟩ := ht
  have hC := Cx.startMs w [(p, .cells #[.map (some b), .int .i64 T.th, .int .i64 T.tm, .int .i64 T.uh, .int .i64 T.um] 75), (b, .map es cl)] (by simpa using hpb) (by simp [hp_, hb_])
  refine WC.seq (fun K1 hK2 => ?_)
  refine WC.region ?_
  refine WL.newM hC (fun b => .pointer (some ⟨b, 0, none⟩)) (.cells #[.int .i64 f.proto, .int .u32 f.src, .int .i64 f.sport, .int .u32 f.dst, .int .i64 f.dport] 32) 3 (fun _ => by kernel_rfl) (fun g3 w4 hb7 hF5 hC6 => ?_)
  refine WL.newM hC6 (fun b => .pointer (some ⟨b, 0, none⟩)) (.cells #[.int .i64 0, .int .u32 0, .int .i64 0, .int .u32 0, .int .i64 0, .int .u32 0, .int .i64 0, .bool false, .bool false, .int .i64 0] 34) 4 (fun _ => by kernel_rfl) (fun g8 w9 hb12 hF10 hC11 => ?_)
  refine WL.runs 1 [(5, .bool false)] (fun _ => by kernel_rfl) ?_
  refine WL.done rfl ?_
  refine QX.then_normal (hK2 _ _ ?_)
  refine WC.seq (fun K13 hK14 => ?_)
  refine WC.seq (fun K15 hK16 => ?_)
  refine WC.region ?_
  refine WL.runs 2 [(9, .bool false), (8, .pointer (some ⟨p, 0, none⟩))] (fun _ => by kernel_rfl) ?_
  refine WL.done rfl ?_
  refine QX.then_normal (hK16 _ _ ?_)
  refine WC.cond_false rfl ?_
  refine WC.skip ?_
  refine QX.then_normal (hK14 _ _ ?_)
  refine WC.seq (fun K17 hK18 => ?_)
  refine WC.drawC hC11 [] (by kernel_rfl) (fun w19 hF20 hC21 hS22 => ?_)
  refine WD.pure (NoPanic.then hN) 0 12 (.pointer (some ⟨p, 0, none⟩)) (by kernel_rfl) (fun _ => by kernel_rfl) hS22 ?_
  refine WD.pure (NoPanic.then hN) 1 13 (.pointer (some ⟨p, 0, none⟩)) (by kernel_rfl) (fun _ => by kernel_rfl) hS22 ?_
  refine WD.pure (NoPanic.then hN) 2 14 (.pointer (some ⟨p, 0, none⟩)) (by kernel_rfl) (fun _ => by kernel_rfl) hS22 ?_
  refine WD.load (NoPanic.then hN) 3 71 (.pointer (some ⟨p, 0, none⟩)) (.map (some b)) 15 (by kernel_rfl) (by kernel_rfl) (fun _ hS_ => run_ld (Fr.has hS_ (hC21.get 0 rfl) (by simp)) rfl) hS22 ?_
  refine WD.load (NoPanic.then hN) 4 32 (.pointer (some ⟨g3, 0, none⟩)) (.agg #[.int .i64 f.proto, .int .u32 f.src, .int .i64 f.sport, .int .u32 f.dst, .int .i64 f.dport]) 16 (by kernel_rfl) (by kernel_rfl) (fun _ hS_ => run_ld (Fr.has hS_ (hC21.get 2 rfl) (by simp)) rfl) hS22 ?_
  obtain ⟨xv23, hxv24⟩ : ∃ x_, (lookL T.m f).getD zeroE = x_ := ⟨_, rfl⟩
  obtain ⟨bv25, hbv26⟩ : ∃ b_, (lookL T.m f).isSome = b_ := ⟨_, rfl⟩
  refine WD.semP (NoPanic.then hN) 5 (Instr.lookup 71 (.map (some b)) (.agg #[.int .i64 f.proto, .int .u32 f.src, .int .i64 f.sport, .int .u32 f.dst, .int .i64 f.dport]) true) 17 (.tuple #[.agg #[.int .i64 xv23.flow.proto, .int .u32 xv23.flow.src, .int .i64 xv23.flow.sport, .int .u32 xv23.flow.dst, .int .i64 xv23.flow.dport, .int .u32 xv23.dip, .int .i64 xv23.epoch, .bool xv23.trusted, .bool xv23.closing, .int .i64 xv23.last], .bool bv25]) (by kernel_rfl) (by kernel_rfl) (fun w_ hS_ => lookM_ok (P := Try.prog) (w := w_) (ek := encF) (ev := encE) (d := zeroE) (show Try.prog.underlying 71 = some (.map 32 34) from by kernel_rfl) keyF (fun _ => by kernel_rfl) (Fr.has hS_ (hC21.get 1 rfl) (by simp)) hm_ f hxv24 hbv26) hS22 ?_
  refine WD.pure (NoPanic.then hN) 6 11 (.tuple #[.agg #[.int .i64 xv23.flow.proto, .int .u32 xv23.flow.src, .int .i64 xv23.flow.sport, .int .u32 xv23.flow.dst, .int .i64 xv23.flow.dport, .int .u32 xv23.dip, .int .i64 xv23.epoch, .bool xv23.trusted, .bool xv23.closing, .int .i64 xv23.last], .bool bv25]) (by kernel_rfl) (fun _ => by kernel_rfl) hS22 ?_
  refine WD.pure (NoPanic.then hN) 7 18 (.agg #[.int .i64 xv23.flow.proto, .int .u32 xv23.flow.src, .int .i64 xv23.flow.sport, .int .u32 xv23.flow.dst, .int .i64 xv23.flow.dport, .int .u32 xv23.dip, .int .i64 xv23.epoch, .bool xv23.trusted, .bool xv23.closing, .int .i64 xv23.last]) (by kernel_rfl) (fun _ => by kernel_rfl) hS22 ?_
  refine WD.pure (NoPanic.then hN) 8 19 (.bool bv25) (by kernel_rfl) (fun _ => by kernel_rfl) hS22 ?_
  refine WD.new 9 (fun b => .pointer (some ⟨b, 0, none⟩)) (.cells #[.int .i64 0, .int .u32 0, .int .i64 0, .int .u32 0, .int .i64 0, .int .u32 0, .int .i64 0, .bool false, .bool false, .int .i64 0] 34) (by kernel_rfl) rfl rfl rfl rfl rfl (fun _ => by kernel_rfl) (fun g27 w28 hb31 hl32 hF29 ho33 => ?_)
  have hC30 := hC21.callB hF29 hb31 ho33
  have hS34 := hS22.trans hF29 (by simp)
  refine ⟨hS34, ?_⟩
  obtain ⟨w35, hr36, hF37, hC38⟩ := sto_run (c' := #[.int .i64 xv23.flow.proto, .int .u32 xv23.flow.src, .int .i64 xv23.flow.sport, .int .u32 xv23.flow.dst, .int .i64 xv23.flow.dport, .int .u32 xv23.dip, .int .i64 xv23.epoch, .bool xv23.trusted, .bool xv23.closing, .int .i64 xv23.last]) Try.prog hC30 4 34 g27 0 (.agg #[.int .i64 xv23.flow.proto, .int .u32 xv23.flow.src, .int .i64 xv23.flow.sport, .int .u32 xv23.flow.dst, .int .i64 xv23.flow.dport, .int .u32 xv23.dip, .int .i64 xv23.epoch, .bool xv23.trusted, .bool xv23.closing, .int .i64 xv23.last]) rfl (by kernel_rfl)
  have hS39 := hS34.trans hF37 (by first | (simp; done) | (simp [*]; done) | (have q_ := hS34.size; simp; omega))
  refine WD.semU 10 (Instr.storeAt 34 (.pointer (some ⟨g27, 0, none⟩)) (.agg #[.int .i64 xv23.flow.proto, .int .u32 xv23.flow.src, .int .i64 xv23.flow.sport, .int .u32 xv23.flow.dst, .int .i64 xv23.flow.dport, .int .u32 xv23.dip, .int .i64 xv23.epoch, .bool xv23.trusted, .bool xv23.closing, .int .i64 xv23.last])) (by kernel_rfl) (by kernel_rfl) hr36 hS39 ?_
  refine WD.pure (NoPanic.then hN) 11 7 (.bool bv25) (by kernel_rfl) (fun _ => by kernel_rfl) hS39 ?_
  refine WD.done (by kernel_rfl) ?_
  refine QX.then_normal (hK18 _ _ ?_)
  refine WC.seq (fun K40 hK41 => ?_)
  refine WC.region ?_
  refine WL.load 34 (.pointer (some ⟨g27, 0, none⟩)) (.agg #[.int .i64 xv23.flow.proto, .int .u32 xv23.flow.src, .int .i64 xv23.flow.sport, .int .u32 xv23.flow.dst, .int .i64 xv23.flow.dport, .int .u32 xv23.dip, .int .i64 xv23.epoch, .bool xv23.trusted, .bool xv23.closing, .int .i64 xv23.last]) 20 (by kernel_rfl) (run_ld (hC38.get 4 rfl) rfl) ?_
  refine WL.runs 1 [(21, .bool bv25)] (fun _ => by kernel_rfl) ?_
  refine WL.storeM (c' := #[.int .i64 xv23.flow.proto, .int .u32 xv23.flow.src, .int .i64 xv23.flow.sport, .int .u32 xv23.flow.dst, .int .i64 xv23.flow.dport, .int .u32 xv23.dip, .int .i64 xv23.epoch, .bool xv23.trusted, .bool xv23.closing, .int .i64 xv23.last]) hC38 3 34 g8 0 (.agg #[.int .i64 xv23.flow.proto, .int .u32 xv23.flow.src, .int .i64 xv23.flow.sport, .int .u32 xv23.flow.dst, .int .i64 xv23.flow.dport, .int .u32 xv23.dip, .int .i64 xv23.epoch, .bool xv23.trusted, .bool xv23.closing, .int .i64 xv23.last]) (by kernel_rfl) rfl (by kernel_rfl) (fun w42 hF44 hC45 => ?_)
  refine WL.runs 1 [(5, .bool bv25)] (fun _ => by kernel_rfl) ?_
  refine WL.done rfl ?_
  refine QX.then_normal (hK41 _ _ ?_)
  refine WC.ret ?_
  refine (hret' _ _ (.tuple #[.agg #[.int .i64 xv23.flow.proto, .int .u32 xv23.flow.src, .int .i64 xv23.flow.sport, .int .u32 xv23.flow.dst, .int .i64 xv23.flow.dport, .int .u32 xv23.dip, .int .i64 xv23.epoch, .bool xv23.trusted, .bool xv23.closing, .int .i64 xv23.last], .bool bv25]) (fun a ha => ?_) ?_).1
  · exact res_run ha ((ResR.cell rfl (run_ld (hC45.get 3 rfl) rfl) (ResR.tmp rfl ResR.nil))) rfl
  clear hN hret hret' hK41 hK18 hK16 hK14 hK2
  exact ⟨by subst hxv24 hbv26; rfl, hC45.fr.shrink (by intro x hx; simp at hx; rcases hx with rfl | rfl; exact (hC45.get 0 rfl).trans hp_.symm; exact (hC45.get 1 rfl).trans hb_.symm)⟩

theorem oldest_ct (p b : Nat) (T : Tb)  (w : World) (ht : tbAt w p b T) : Calls Try.prog 34 #[.pointer (some ⟨p, 0, none⟩)] w fun e w' => ∃ fd bst, e = .returned (.agg #[.int .i64 bst.flow.proto, .int .u32 bst.flow.src, .int .i64 bst.flow.sport, .int .u32 bst.flow.dst, .int .i64 bst.flow.dport, .int .u32 bst.dip, .int .i64 bst.epoch, .bool bst.trusted, .bool bst.closing, .int .i64 bst.last]) ∧ Fr w w' [] ∧ Best T.m fd bst := by
  refine enterD (n := 43) Try.func34 rfl rfl (Nat.le_of_ble_eq_true rfl) ?_
  intro Q0 hN hret hret'
  obtain ⟨hpb, hp_, es, cl, hb_, hm_⟩ := ht
  have hC := Cx.startMs w [(p, .cells #[.map (some b), .int .i64 T.th, .int .i64 T.tm, .int .i64 T.uh, .int .i64 T.um] 75), (b, .map es cl)] (by simpa using hpb) (by simp [hp_, hb_])
  refine WC.seq (fun K1 hK2 => ?_)
  refine WC.region ?_
  refine WL.newM hC (fun b => .pointer (some ⟨b, 0, none⟩)) (.cells #[.int .i64 0, .int .u32 0, .int .i64 0, .int .u32 0, .int .i64 0, .int .u32 0, .int .i64 0, .bool false, .bool false, .int .i64 0] 34) 2 (fun _ => by kernel_rfl) (fun g3 w4 hb7 hF5 hC6 => ?_)
  refine WL.done rfl ?_
  refine QX.then_normal (hK2 _ _ ?_)
  refine WC.scope ?_
  refine WC.seq (fun K8 hK9 => ?_)
  refine WC.region ?_
  refine WL.newM hC6 (fun b => .pointer (some ⟨b, 0, none⟩)) (.cells #[.int .i64 0, .int .u32 0, .int .i64 0, .int .u32 0, .int .i64 0, .int .u32 0, .int .i64 0, .bool false, .bool false, .int .i64 0] 34) 3 (fun _ => by kernel_rfl) (fun g10 w11 hb14 hF12 hC13 => ?_)
  refine WL.done rfl ?_
  refine QX.then_normal (hK9 _ _ ?_)
  refine WC.seq (fun K15 hK16 => ?_)
  refine WC.region ?_
  refine WL.runs 1 [(4, .bool false)] (fun _ => by kernel_rfl) ?_
  refine WL.done rfl ?_
  refine QX.then_normal (hK16 _ _ ?_)
  refine WC.seq (fun K17 hK18 => ?_)
  refine WC.label ?_
  refine QX.then_normal (hK18 _ _ ?_)
  refine WC.seq (fun K19 hK20 => ?_)
  refine WC.seq (fun K21 hK22 => ?_)
  refine WC.region ?_
  refine WL.runs 3 [(9, .pointer (some ⟨p, 0, none⟩)), (8, .pointer (some ⟨p, 0, none⟩)), (7, .pointer (some ⟨p, 0, none⟩))] (fun _ => by kernel_rfl) ?_
  refine WL.load 71 (.pointer (some ⟨p, 0, none⟩)) (.map (some b)) 10 (by kernel_rfl) (run_ld (hC13.get 0 rfl) rfl) ?_
  obtain ⟨it23, w24, hr25, hF26, hC27, hge28⟩ := range_run (P := Try.prog) hC13 1 rfl (t := 71) (show Try.prog.underlying 71 = some (.map 32 34) from by kernel_rfl)
  refine WL.sem (Instr.range 71 (.map (some b))) 11 (.pointer (some ⟨it23, 0, none⟩)) (by kernel_rfl) hr25 ?_
  refine WL.done rfl ?_
  refine QX.then_normal (hK22 _ _ ?_)
  refine WC.block ?_
  refine WC.loop (fun m_ E_ w_ => ∃ (seen29 : Array Nat) (vis29 left29 : List (Flow × Ent)) (bst : Ent) (fd : Bool), m_ = left29.length ∧ E_ = [(0, .pointer (some ⟨p, 0, none⟩)), (2, .pointer (some ⟨g3, 0, none⟩)), (3, .pointer (some ⟨g10, 0, none⟩)), (4, .bool fd), (7, .pointer (some ⟨p, 0, none⟩)), (8, .pointer (some ⟨p, 0, none⟩)), (9, .pointer (some ⟨p, 0, none⟩)), (10, .map (some b)), (11, .pointer (some ⟨it23, 0, none⟩))] ∧ Cx w [p, b] w_ [(p, .cells #[.map (some b), .int .i64 T.th, .int .i64 T.tm, .int .i64 T.uh, .int .i64 T.um] 75), (b, .map es cl), (g3, .cells #[.int .i64 0, .int .u32 0, .int .i64 0, .int .u32 0, .int .i64 0, .int .u32 0, .int .i64 0, .bool false, .bool false, .int .i64 0] 34), (g10, .cells #[.int .i64 bst.flow.proto, .int .u32 bst.flow.src, .int .i64 bst.flow.sport, .int .u32 bst.flow.dst, .int .i64 bst.flow.dport, .int .u32 bst.dip, .int .i64 bst.epoch, .bool bst.trusted, .bool bst.closing, .int .i64 bst.last] 34), (it23, .mapIter (some b) cl seen29 cl)] [] ∧ (It encF encE es seen29 T.m vis29 left29 ∧ Best vis29 fd bst)) ⟨_, _, ⟨#[], [], T.m, zeroE, false, rfl, rfl, hC27, (It.start hm_), Best.start⟩, sub_of ⟨rfl, rfl, rfl, rfl, rfl, rfl, rfl, rfl, rfl, trivial⟩⟩ (fun m33 E_ w34 K30 hK31 hI32 => ?_)
  obtain ⟨seen29, vis29, left29, bst, fd, rfl, rfl, hC35, hit29, hbest⟩ := hI32
  skip
  refine WC.seq (fun K36 hK37 => ?_)
  refine WC.region ?_
  rcases next_run (P := Try.prog) hC35 1 4 rfl rfl hm_ hit29 0 with ⟨hl38, hr39⟩ | ⟨p40, l41, l42, seen43, w44, hl38, hr39, hF45, hC46, hit47, hent48⟩
  · -- nothing is left
    refine WL.sem (Instr.next (.pointer (some ⟨it23, 0, none⟩)) false 0) 12 (.tuple #[.bool false]) (by kernel_rfl) hr39 ?_
    refine WL.runs 1 [(13, .bool false)] (fun _ => by kernel_rfl) ?_
    refine WL.done rfl ?_
    refine QX.then_normal (hK37 _ _ ?_)
    refine WC.seq (fun K49 hK50 => ?_)
    refine WC.cond_false rfl ?_
    refine WC.exit ?_
    refine QX.then_exit ?_
    refine QX.then_exit ?_
    refine QX.block_hit ?_
    refine QX.then_normal (hK20 _ _ ?_)
    refine WC.seq (fun K51 hK52 => ?_)
    refine WC.region ?_
    refine WL.load 34 (.pointer (some ⟨g10, 0, none⟩)) (.agg #[.int .i64 bst.flow.proto, .int .u32 bst.flow.src, .int .i64 bst.flow.sport, .int .u32 bst.flow.dst, .int .i64 bst.flow.dport, .int .u32 bst.dip, .int .i64 bst.epoch, .bool bst.trusted, .bool bst.closing, .int .i64 bst.last]) 42 (by kernel_rfl) (run_ld (hC35.get 3 rfl) rfl) ?_
    refine WL.storeM (c' := #[.int .i64 bst.flow.proto, .int .u32 bst.flow.src, .int .i64 bst.flow.sport, .int .u32 bst.flow.dst, .int .i64 bst.flow.dport, .int .u32 bst.dip, .int .i64 bst.epoch, .bool bst.trusted, .bool bst.closing, .int .i64 bst.last]) hC35 2 34 g3 0 (.agg #[.int .i64 bst.flow.proto, .int .u32 bst.flow.src, .int .i64 bst.flow.sport, .int .u32 bst.flow.dst, .int .i64 bst.flow.dport, .int .u32 bst.dip, .int .i64 bst.epoch, .bool bst.trusted, .bool bst.closing, .int .i64 bst.last]) (by kernel_rfl) rfl (by kernel_rfl) (fun w53 hF55 hC56 => ?_)
    refine WL.done rfl ?_
    refine QX.then_normal (hK52 _ _ ?_)
    refine WC.ret ?_
    refine QX.scope_ret ?_
    refine (hret' _ _ (.agg #[.int .i64 bst.flow.proto, .int .u32 bst.flow.src, .int .i64 bst.flow.sport, .int .u32 bst.flow.dst, .int .i64 bst.flow.dport, .int .u32 bst.dip, .int .i64 bst.epoch, .bool bst.trusted, .bool bst.closing, .int .i64 bst.last]) (fun a ha => ?_) ?_).1
    · exact res_run ha ((ResR.cell rfl (run_ld (hC56.get 2 rfl) rfl) ResR.nil)) rfl
    clear hN hret hret' hK52 hK50 hK37 hK22 hK20 hK18 hK16 hK9 hK2
    exact ⟨_, _, rfl, hC56.fr.shrink (by intro x hx; simp at hx; rcases hx with rfl | rfl; exact (hC56.get 0 rfl).trans hp_.symm; exact (hC56.get 1 rfl).trans hb_.symm), hbest.perm (hit29.perm_end hl38)⟩
  · -- one more
    refine WL.sem (Instr.next (.pointer (some ⟨it23, 0, none⟩)) false 0) 12 (.tuple #[.bool true, .agg #[.int .i64 p40.1.proto, .int .u32 p40.1.src, .int .i64 p40.1.sport, .int .u32 p40.1.dst, .int .i64 p40.1.dport], .agg #[.int .i64 p40.2.flow.proto, .int .u32 p40.2.flow.src, .int .i64 p40.2.flow.sport, .int .u32 p40.2.flow.dst, .int .i64 p40.2.flow.dport, .int .u32 p40.2.dip, .int .i64 p40.2.epoch, .bool p40.2.trusted, .bool p40.2.closing, .int .i64 p40.2.last]]) (by kernel_rfl) hr39 ?_
    refine WL.runs 1 [(13, .bool true)] (fun _ => by kernel_rfl) ?_
    refine WL.done rfl ?_
    refine QX.then_normal (hK37 _ _ ?_)
    refine WC.seq (fun K57 hK58 => ?_)
    refine WC.cond_true rfl ?_
    refine WC.skip ?_
    refine QX.then_normal (hK58 _ _ ?_)
    refine WC.block ?_
    refine WC.seq (fun K59 hK60 => ?_)
    refine WC.region ?_
    refine WL.sem (Instr.entry (.pointer (some ⟨it23, 0, none⟩))) 14 (.tuple #[.agg #[.int .i64 p40.1.proto, .int .u32 p40.1.src, .int .i64 p40.1.sport, .int .u32 p40.1.dst, .int .i64 p40.1.dport], .agg #[.int .i64 p40.2.flow.proto, .int .u32 p40.2.flow.src, .int .i64 p40.2.flow.sport, .int .u32 p40.2.flow.dst, .int .i64 p40.2.flow.dport, .int .u32 p40.2.dip, .int .i64 p40.2.epoch, .bool p40.2.trusted, .bool p40.2.closing, .int .i64 p40.2.last]]) (by kernel_rfl) (hent48 _ (hC46.get 4 rfl) (hC46.get 1 rfl)) ?_
    refine WL.runs 1 [(15, .agg #[.int .i64 p40.2.flow.proto, .int .u32 p40.2.flow.src, .int .i64 p40.2.flow.sport, .int .u32 p40.2.flow.dst, .int .i64 p40.2.flow.dport, .int .u32 p40.2.dip, .int .i64 p40.2.epoch, .bool p40.2.trusted, .bool p40.2.closing, .int .i64 p40.2.last])] (fun _ => by kernel_rfl) ?_
    refine WL.newM hC46 (fun b => .pointer (some ⟨b, 0, none⟩)) (.cells #[.int .i64 0, .int .u32 0, .int .i64 0, .int .u32 0, .int .i64 0, .int .u32 0, .int .i64 0, .bool false, .bool false, .int .i64 0] 34) 6 (fun _ => by kernel_rfl) (fun g61 w62 hb65 hF63 hC64 => ?_)
    refine WL.storeM (c' := #[.int .i64 p40.2.flow.proto, .int .u32 p40.2.flow.src, .int .i64 p40.2.flow.sport, .int .u32 p40.2.flow.dst, .int .i64 p40.2.flow.dport, .int .u32 p40.2.dip, .int .i64 p40.2.epoch, .bool p40.2.trusted, .bool p40.2.closing, .int .i64 p40.2.last]) hC64 5 34 g61 0 (.agg #[.int .i64 p40.2.flow.proto, .int .u32 p40.2.flow.src, .int .i64 p40.2.flow.sport, .int .u32 p40.2.flow.dst, .int .i64 p40.2.flow.dport, .int .u32 p40.2.dip, .int .i64 p40.2.epoch, .bool p40.2.trusted, .bool p40.2.closing, .int .i64 p40.2.last]) (by kernel_rfl) rfl (by kernel_rfl) (fun w66 hF68 hC69 => ?_)
    refine WL.done rfl ?_
    refine QX.then_normal (hK60 _ _ ?_)
    refine WC.seq (fun K70 hK71 => ?_)
    refine WC.seq (fun K72 hK73 => ?_)
    refine WC.region ?_
    refine WL.runs 1 [(16, .pointer (some ⟨g61, 7, none⟩))] (fun _ => by kernel_rfl) ?_
    refine WL.load 4 (.pointer (some ⟨g61, 7, none⟩)) (.bool p40.2.trusted) 17 (by kernel_rfl) (run_ld (hC69.get 5 rfl) rfl) ?_
    refine WL.done rfl ?_
    refine QX.then_normal (hK73 _ _ ?_)
    refine WC.test_at 17 (p40.2.trusted) rfl (fun t74b => ?_) (fun t74b => ?_)
    · -- p40.2.trusted = true: true
      refine WC.cond_true rfl ?_
      refine WC.exit ?_
      refine QX.then_exit ?_
      refine QX.block_hit ?_
      refine QX.then_normal ?_
      have hC75 := hC69.pick [0, 1, 2, 3, 4] [] rfl rfl
      refine fun a_ ha_ => hK31 _ _ _ ?_ ⟨seen43, (vis29 ++ [p40]), (l41 ++ l42), bst, fd, rfl, rfl, hC75, hit47, hbest.skip t74b⟩ a_ (ha_.weaken (sub_of ⟨rfl, rfl, rfl, rfl, rfl, rfl, rfl, rfl, rfl, trivial⟩))
      rw [hl38]; simp
    · -- p40.2.trusted = true: false
      refine WC.cond_false rfl ?_
      refine WC.skip ?_
      refine QX.then_normal (hK71 _ _ ?_)
      refine WC.seq (fun K76 hK77 => ?_)
      refine WC.region ?_
      refine WL.runs 3 [(20, .bool !fd), (19, .bool !fd), (18, .bool fd)] (fun _ => by kernel_rfl) ?_
      refine WL.test_at 20 (!fd) rfl (fun t78b => ?_) (fun t78b => ?_)
      · -- !fd = true: true
        have t78 : fd = false := by first | (simpa only [Bool.not_eq_true', Bool.not_eq_false'] using t78b) | simpa using t78b
        refine WL.runs 20 [(40, .bool true), (39, undef), (38, undef), (37, undef), (36, undef), (35, undef), (34, undef), (33, undef), (32, undef), (31, undef), (30, undef), (29, undef), (28, undef), (27, .bool true), (26, .bool true), (25, undef), (24, undef), (23, undef), (22, undef), (21, undef)] (fun _ => by kernel_rfl) ?_
        refine WL.done rfl ?_
        refine QX.then_normal (hK77 _ _ ?_)
        refine WC.cond_true rfl ?_
        refine WC.region ?_
        refine WL.load 34 (.pointer (some ⟨g61, 0, none⟩)) (.agg #[.int .i64 p40.2.flow.proto, .int .u32 p40.2.flow.src, .int .i64 p40.2.flow.sport, .int .u32 p40.2.flow.dst, .int .i64 p40.2.flow.dport, .int .u32 p40.2.dip, .int .i64 p40.2.epoch, .bool p40.2.trusted, .bool p40.2.closing, .int .i64 p40.2.last]) 41 (by kernel_rfl) (run_ld (hC69.get 5 rfl) rfl) ?_
        refine WL.storeM (c' := #[.int .i64 p40.2.flow.proto, .int .u32 p40.2.flow.src, .int .i64 p40.2.flow.sport, .int .u32 p40.2.flow.dst, .int .i64 p40.2.flow.dport, .int .u32 p40.2.dip, .int .i64 p40.2.epoch, .bool p40.2.trusted, .bool p40.2.closing, .int .i64 p40.2.last]) hC69 3 34 g10 0 (.agg #[.int .i64 p40.2.flow.proto, .int .u32 p40.2.flow.src, .int .i64 p40.2.flow.sport, .int .u32 p40.2.flow.dst, .int .i64 p40.2.flow.dport, .int .u32 p40.2.dip, .int .i64 p40.2.epoch, .bool p40.2.trusted, .bool p40.2.closing, .int .i64 p40.2.last]) (by kernel_rfl) rfl (by kernel_rfl) (fun w79 hF81 hC82 => ?_)
        refine WL.runs 1 [(4, .bool true)] (fun _ => by kernel_rfl) ?_
        refine WL.done rfl ?_
        refine QX.block_normal ?_
        refine QX.then_normal ?_
        have hC83 := hC82.pick [0, 1, 2, 3, 4] [] rfl rfl
        refine fun a_ ha_ => hK31 _ _ _ ?_ ⟨seen43, (vis29 ++ [p40]), (l41 ++ l42), p40.2, true, rfl, rfl, hC83, hit47, hbest.first2 (by simpa using t78b) (by simpa using t74b)⟩ a_ (ha_.weaken (sub_of ⟨rfl, rfl, rfl, rfl, rfl, rfl, rfl, rfl, rfl, trivial⟩))
        rw [hl38]; simp
      · -- !fd = true: false
        have t78 : fd = true := by first | (simpa only [Bool.not_eq_true', Bool.not_eq_false'] using t78b) | simpa using t78b
        refine WL.runs 1 [(21, .pointer (some ⟨g61, 9, none⟩))] (fun _ => by kernel_rfl) ?_
        refine WL.load 3 (.pointer (some ⟨g61, 9, none⟩)) (.int .i64 p40.2.last) 22 (by kernel_rfl) (run_ld (hC69.get 5 rfl) rfl) ?_
        refine WL.runs 1 [(23, .pointer (some ⟨g10, 9, none⟩))] (fun _ => by kernel_rfl) ?_
        refine WL.load 3 (.pointer (some ⟨g10, 9, none⟩)) (.int .i64 bst.last) 24 (by kernel_rfl) (run_ld (hC69.get 3 rfl) rfl) ?_
        refine WL.runs 3 [(27, .bool (decide (p40.2.last < bst.last))), (26, .bool (decide (p40.2.last < bst.last))), (25, .bool (decide (p40.2.last < bst.last)))] (fun _ => by kernel_rfl) ?_
        refine WL.test_at 27 (decide (p40.2.last < bst.last)) rfl (fun t84b => ?_) (fun t84b => ?_)
        · -- p40.2.last < bst.last: true
          have t84 : p40.2.last < bst.last := by have q_ := of_decide_eq_true t84b; omega
          refine WL.runs 13 [(40, .bool true), (39, undef), (38, undef), (37, undef), (36, undef), (35, undef), (34, undef), (33, undef), (32, undef), (31, undef), (30, undef), (29, undef), (28, undef)] (fun _ => by kernel_rfl) ?_
          refine WL.done rfl ?_
          refine QX.then_normal (hK77 _ _ ?_)
          refine WC.cond_true rfl ?_
          refine WC.region ?_
          refine WL.load 34 (.pointer (some ⟨g61, 0, none⟩)) (.agg #[.int .i64 p40.2.flow.proto, .int .u32 p40.2.flow.src, .int .i64 p40.2.flow.sport, .int .u32 p40.2.flow.dst, .int .i64 p40.2.flow.dport, .int .u32 p40.2.dip, .int .i64 p40.2.epoch, .bool p40.2.trusted, .bool p40.2.closing, .int .i64 p40.2.last]) 41 (by kernel_rfl) (run_ld (hC69.get 5 rfl) rfl) ?_
          refine WL.storeM (c' := #[.int .i64 p40.2.flow.proto, .int .u32 p40.2.flow.src, .int .i64 p40.2.flow.sport, .int .u32 p40.2.flow.dst, .int .i64 p40.2.flow.dport, .int .u32 p40.2.dip, .int .i64 p40.2.epoch, .bool p40.2.trusted, .bool p40.2.closing, .int .i64 p40.2.last]) hC69 3 34 g10 0 (.agg #[.int .i64 p40.2.flow.proto, .int .u32 p40.2.flow.src, .int .i64 p40.2.flow.sport, .int .u32 p40.2.flow.dst, .int .i64 p40.2.flow.dport, .int .u32 p40.2.dip, .int .i64 p40.2.epoch, .bool p40.2.trusted, .bool p40.2.closing, .int .i64 p40.2.last]) (by kernel_rfl) rfl (by kernel_rfl) (fun w85 hF87 hC88 => ?_)
          refine WL.runs 1 [(4, .bool true)] (fun _ => by kernel_rfl) ?_
          refine WL.done rfl ?_
          refine QX.block_normal ?_
          refine QX.then_normal ?_
          have hC89 := hC88.pick [0, 1, 2, 3, 4] [] rfl rfl
          refine fun a_ ha_ => hK31 _ _ _ ?_ ⟨seen43, (vis29 ++ [p40]), (l41 ++ l42), p40.2, true, rfl, rfl, hC89, hit47, hbest.next2 (by simpa using t78b) (by simpa using t74b) (by simp [older, t74b, t78, t78b, t84, t84b])⟩ a_ (ha_.weaken (sub_of ⟨rfl, rfl, rfl, rfl, rfl, rfl, rfl, rfl, rfl, trivial⟩))
          rw [hl38]; simp
        · -- p40.2.last < bst.last: false
          have t84 : bst.last ≤ p40.2.last := by have q_ := of_decide_eq_false t84b; omega
          refine WL.runs 1 [(28, .pointer (some ⟨g61, 9, none⟩))] (fun _ => by kernel_rfl) ?_
          refine WL.load 3 (.pointer (some ⟨g61, 9, none⟩)) (.int .i64 p40.2.last) 29 (by kernel_rfl) (run_ld (hC69.get 5 rfl) rfl) ?_
          refine WL.runs 1 [(30, .pointer (some ⟨g10, 9, none⟩))] (fun _ => by kernel_rfl) ?_
          refine WL.load 3 (.pointer (some ⟨g10, 9, none⟩)) (.int .i64 bst.last) 31 (by kernel_rfl) (run_ld (hC69.get 3 rfl) rfl) ?_
          refine WL.runs 2 [(33, .bool (p40.2.last == bst.last)), (32, .bool (p40.2.last == bst.last))] (fun _ => by kernel_rfl) ?_
          refine WL.test_at 33 (p40.2.last == bst.last) rfl (fun t90b => ?_) (fun t90b => ?_)
          · -- p40.2.last = bst.last: true
            have t90 : p40.2.last = bst.last := by simpa using t90b
            refine WL.runs 1 [(34, .pointer (some ⟨g61, 0, none⟩))] (fun _ => by kernel_rfl) ?_
            refine WL.load 32 (.pointer (some ⟨g61, 0, none⟩)) (.agg #[.int .i64 p40.2.flow.proto, .int .u32 p40.2.flow.src, .int .i64 p40.2.flow.sport, .int .u32 p40.2.flow.dst, .int .i64 p40.2.flow.dport]) 35 (by kernel_rfl) (run_ld (hC69.get 5 rfl) rfl) ?_
            refine WL.runs 1 [(36, .pointer (some ⟨g10, 0, none⟩))] (fun _ => by kernel_rfl) ?_
            refine WL.load 32 (.pointer (some ⟨g10, 0, none⟩)) (.agg #[.int .i64 bst.flow.proto, .int .u32 bst.flow.src, .int .i64 bst.flow.sport, .int .u32 bst.flow.dst, .int .i64 bst.flow.dport]) 37 (by kernel_rfl) (run_ld (hC69.get 3 rfl) rfl) ?_
            refine WL.call rfl rfl rfl rfl rfl (by kernel_rfl) (lessF_ct p40.2.flow bst.flow w66) ?_
            rintro _ w92 ⟨rfl, hF91⟩
            refine ⟨_, rfl, ?_⟩
            have hC93 := hC69.call hF91
            refine WL.runs 2 [(40, .bool (lessF p40.2.flow bst.flow)), (39, .bool (lessF p40.2.flow bst.flow))] (fun _ => by kernel_rfl) ?_
            refine WL.done rfl ?_
            refine QX.then_normal (hK77 _ _ ?_)
            refine WC.test_at 40 (lessF p40.2.flow bst.flow) rfl (fun t94b => ?_) (fun t94b => ?_)
            · -- (lessF p40.2.flow bst.flow) = true: true
              refine WC.cond_true rfl ?_
              refine WC.region ?_
              refine WL.load 34 (.pointer (some ⟨g61, 0, none⟩)) (.agg #[.int .i64 p40.2.flow.proto, .int .u32 p40.2.flow.src, .int .i64 p40.2.flow.sport, .int .u32 p40.2.flow.dst, .int .i64 p40.2.flow.dport, .int .u32 p40.2.dip, .int .i64 p40.2.epoch, .bool p40.2.trusted, .bool p40.2.closing, .int .i64 p40.2.last]) 41 (by kernel_rfl) (run_ld (hC93.get 5 rfl) rfl) ?_
              refine WL.storeM (c' := #[.int .i64 p40.2.flow.proto, .int .u32 p40.2.flow.src, .int .i64 p40.2.flow.sport, .int .u32 p40.2.flow.dst, .int .i64 p40.2.flow.dport, .int .u32 p40.2.dip, .int .i64 p40.2.epoch, .bool p40.2.trusted, .bool p40.2.closing, .int .i64 p40.2.last]) hC93 3 34 g10 0 (.agg #[.int .i64 p40.2.flow.proto, .int .u32 p40.2.flow.src, .int .i64 p40.2.flow.sport, .int .u32 p40.2.flow.dst, .int .i64 p40.2.flow.dport, .int .u32 p40.2.dip, .int .i64 p40.2.epoch, .bool p40.2.trusted, .bool p40.2.closing, .int .i64 p40.2.last]) (by kernel_rfl) rfl (by kernel_rfl) (fun w95 hF97 hC98 => ?_)
              refine WL.runs 1 [(4, .bool true)] (fun _ => by kernel_rfl) ?_
              refine WL.done rfl ?_
              refine QX.block_normal ?_
              refine QX.then_normal ?_
              have hC99 := hC98.pick [0, 1, 2, 3, 4] [] rfl rfl
              refine fun a_ ha_ => hK31 _ _ _ ?_ ⟨seen43, (vis29 ++ [p40]), (l41 ++ l42), p40.2, true, rfl, rfl, hC99, hit47, hbest.next2 (by simpa using t78b) (by simpa using t74b) (by simp [older, t74b, t78, t78b, t84, t84b, t90, t90b, t94b])⟩ a_ (ha_.weaken (sub_of ⟨rfl, rfl, rfl, rfl, rfl, rfl, rfl, rfl, rfl, trivial⟩))
              rw [hl38]; simp
            · -- (lessF p40.2.flow bst.flow) = true: false
              refine WC.cond_false rfl ?_
              refine WC.skip ?_
              refine QX.block_normal ?_
              refine QX.then_normal ?_
              have hC100 := hC93.pick [0, 1, 2, 3, 4] [] rfl rfl
              refine fun a_ ha_ => hK31 _ _ _ ?_ ⟨seen43, (vis29 ++ [p40]), (l41 ++ l42), bst, fd, rfl, rfl, hC100, hit47, hbest.stay2 (by simpa using t78b) (by simp [older, t74b, t78, t78b, t84, t84b, t90, t90b, t94b])⟩ a_ (ha_.weaken (sub_of ⟨rfl, rfl, rfl, rfl, rfl, rfl, rfl, rfl, rfl, trivial⟩))
              rw [hl38]; simp
          · -- p40.2.last = bst.last: false
            have t90 : ¬ (p40.2.last = bst.last) := by simpa using t90b
            refine WL.runs 7 [(40, .bool false), (39, .bool false), (38, undef), (37, undef), (36, undef), (35, undef), (34, undef)] (fun _ => by kernel_rfl) ?_
            refine WL.done rfl ?_
            refine QX.then_normal (hK77 _ _ ?_)
            refine WC.cond_false rfl ?_
            refine WC.skip ?_
            refine QX.block_normal ?_
            refine QX.then_normal ?_
            have hC101 := hC69.pick [0, 1, 2, 3, 4] [] rfl rfl
            refine fun a_ ha_ => hK31 _ _ _ ?_ ⟨seen43, (vis29 ++ [p40]), (l41 ++ l42), bst, fd, rfl, rfl, hC101, hit47, hbest.stay2 (by simpa using t78b) (by simp [older, t74b, t78, t78b, t84, t84b, t90, t90b])⟩ a_ (ha_.weaken (sub_of ⟨rfl, rfl, rfl, rfl, rfl, rfl, rfl, rfl, rfl, trivial⟩))
            rw [hl38]; simp

theorem of_t' (p : Nat) (x : Ent) (w : World) (h : x.trusted = true) : Calls Try.prog 43 #[.pointer (some ⟨p, 0, none⟩), .agg #[.int .i64 x.flow.proto, .int .u32 x.flow.src, .int .i64 x.flow.sport, .int .u32 x.flow.dst, .int .i64 x.flow.dport, .int .u32 x.dip, .int .i64 x.epoch, .bool x.trusted, .bool x.closing, .int .i64 x.last]] w fun e w' => e = .returned (.pointer (some ⟨p, 1, none⟩)) ∧ Fr w w' [] := by
  rw [h]; exact of_t p x w
theorem of_u' (p : Nat) (x : Ent) (w : World) (h : x.trusted = false) : Calls Try.prog 43 #[.pointer (some ⟨p, 0, none⟩), .agg #[.int .i64 x.flow.proto, .int .u32 x.flow.src, .int .i64 x.flow.sport, .int .u32 x.flow.dst, .int .i64 x.flow.dport, .int .u32 x.dip, .int .i64 x.epoch, .bool x.trusted, .bool x.closing, .int .i64 x.last]] w fun e w' => e = .returned (.pointer (some ⟨p, 3, none⟩)) ∧ Fr w w' [] := by
  rw [h]; exact of_u p x w
theorem Remove_nil (A : Option Addr) (c : Nat) (fs : List Flow) (w : World) (hr : Rd w 5 cellsF A fs) (hm : fs.length < 2 ^ 40) : Calls Try.prog 24 #[.pointer none, .slice A fs.length c] w fun e w' => e = .returned (.int .i64 0) ∧ Fr w w' [] := by
  refine enterD (n := 42) Try.func24 rfl rfl (Nat.le_of_ble_eq_true rfl) ?_
  intro Q0 hN hret hret'
  have hC := Cx.start w
  refine WC.seq (fun K1 hK2 => ?_)
  refine WC.region ?_
  refine WL.runs 1 [(4, .int .i64 0)] (fun _ => by kernel_rfl) ?_
  refine WL.done rfl ?_
  refine QX.then_normal (hK2 _ _ ?_)
  refine WC.seq (fun K3 hK4 => ?_)
  refine WC.region ?_
  refine WL.runs 1 [(5, .int .i64 0)] (fun _ => by kernel_rfl) ?_
  refine WL.done rfl ?_
  refine QX.then_normal (hK4 _ _ ?_)
  refine WC.seq (fun K5 hK6 => ?_)
  refine WC.seq (fun K7 hK8 => ?_)
  refine WC.region ?_
  refine WL.runs 3 [(12, .int .i64 0), (11, .int .i64 (fs.length : Int)), (10, .slice A fs.length c)] (fun _ => by kernel_rfl) ?_
  refine WL.done rfl ?_
  refine QX.then_normal (hK8 _ _ ?_)
  refine WC.block ?_
  refine WC.loop (fun m_ E_ w_ => ∃ (k : Nat), m_ = fs.length - k ∧ E_ = [(0, .pointer none), (1, .slice A fs.length c), (4, .int .i64 0), (5, .int .i64 0), (10, .slice A fs.length c), (11, .int .i64 (fs.length : Int)), (12, .int .i64 (k : Int))] ∧ Cx w [] w_ [] [] ∧ (k ≤ fs.length)) ⟨_, _, ⟨0, rfl, rfl, hC, Nat.zero_le _⟩, sub_of ⟨rfl, rfl, rfl, rfl, rfl, rfl, rfl, trivial⟩⟩ (fun m12 E_ w13 K9 hK10 hI11 => ?_)
  obtain ⟨k, rfl, rfl, hC14, hk⟩ := hI11
  refine WC.seq (fun K15 hK16 => ?_)
  refine WC.region ?_
  refine WL.runs 1 [(13, .bool (decide ((k : Int) < (fs.length : Int))))] (fun _ => by kernel_rfl) ?_
  refine WL.done rfl ?_
  refine QX.then_normal (hK16 _ _ ?_)
  refine WC.seq (fun K17 hK18 => ?_)
  refine WC.test_at 13 (decide ((k : Int) < (fs.length : Int))) rfl (fun t19b => ?_) (fun t19b => ?_)
  · -- (k : Int) < (fs.length : Int): true
    have t19 : (k : Int) < (fs.length : Int) := by have q_ := of_decide_eq_true t19b; omega
    refine WC.cond_true rfl ?_
    refine WC.skip ?_
    refine QX.then_normal (hK18 _ _ ?_)
    refine WC.seq (fun K20 hK21 => ?_)
    refine WC.block ?_
    refine WC.seq (fun K22 hK23 => ?_)
    refine WC.region ?_
    obtain ⟨e24, he25⟩ := get_some (xs := fs) (i := k) (by omega)
    obtain ⟨b26, o28, hA27, hc29⟩ := hr.at_ _ _ he25
    refine WL.index A fs.length c 14 .i64 (k : Int) b26 o28 k 5 (by kernel_rfl) hA27 (by omega) (by omega) (o28 + k * 5) (by first | (simp; done) | omega) ?_
    refine WL.load 32 (.pointer (some ⟨b26, o28 + k * 5, none⟩)) (.agg #[.int .i64 e24.proto, .int .u32 e24.src, .int .i64 e24.sport, .int .u32 e24.dst, .int .i64 e24.dport]) 15 (by kernel_rfl) (run_rdN (l := [.int .i64 e24.proto, .int .u32 e24.src, .int .i64 e24.sport, .int .u32 e24.dst, .int .i64 e24.dport]) rfl rfl (fun j u hu => by have hq_ := hC14.fr.cell (hc29 j u hu) (by simp); simpa [Nat.add_assoc] using hq_)) ?_
    refine WL.newM hC14 (fun b => .pointer (some ⟨b, 0, none⟩)) (.cells #[.int .i64 0, .int .u32 0, .int .i64 0, .int .u32 0, .int .i64 0] 32) 7 (fun _ => by kernel_rfl) (fun g30 w31 hb34 hF32 hC33 => ?_)
    refine WL.storeM (c' := #[.int .i64 e24.proto, .int .u32 e24.src, .int .i64 e24.sport, .int .u32 e24.dst, .int .i64 e24.dport]) hC33 0 32 g30 0 (.agg #[.int .i64 e24.proto, .int .u32 e24.src, .int .i64 e24.sport, .int .u32 e24.dst, .int .i64 e24.dport]) (by kernel_rfl) rfl (by kernel_rfl) (fun w35 hF37 hC38 => ?_)
    refine WL.done rfl ?_
    refine QX.then_normal (hK23 _ _ ?_)
    refine WC.seq (fun K39 hK40 => ?_)
    refine WC.region ?_
    refine WL.runs 1 [(17, .pointer none)] (fun _ => by kernel_rfl) ?_
    refine WL.load 32 (.pointer (some ⟨g30, 0, none⟩)) (.agg #[.int .i64 e24.proto, .int .u32 e24.src, .int .i64 e24.sport, .int .u32 e24.dst, .int .i64 e24.dport]) 18 (by kernel_rfl) (run_ld (hC38.get 0 rfl) rfl) ?_
    refine WL.call rfl rfl rfl rfl rfl (by kernel_rfl) (Get_nil e24 w35) ?_
    rintro _ w42 ⟨rfl, hF41⟩
    refine ⟨_, rfl, ?_⟩
    have hC43 := hC38.call hF41
    refine WL.runs 3 [(21, .bool false), (20, .agg #[.int .i64 zeroE.flow.proto, .int .u32 zeroE.flow.src, .int .i64 zeroE.flow.sport, .int .u32 zeroE.flow.dst, .int .i64 zeroE.flow.dport, .int .u32 zeroE.dip, .int .i64 zeroE.epoch, .bool zeroE.trusted, .bool zeroE.closing, .int .i64 zeroE.last]), (16, .tuple #[.agg #[.int .i64 zeroE.flow.proto, .int .u32 zeroE.flow.src, .int .i64 zeroE.flow.sport, .int .u32 zeroE.flow.dst, .int .i64 zeroE.flow.dport, .int .u32 zeroE.dip, .int .i64 zeroE.epoch, .bool zeroE.trusted, .bool zeroE.closing, .int .i64 zeroE.last], .bool false])] (fun _ => by kernel_rfl) ?_
    refine WL.newM hC43 (fun b => .pointer (some ⟨b, 0, none⟩)) (.cells #[.int .i64 0, .int .u32 0, .int .i64 0, .int .u32 0, .int .i64 0, .int .u32 0, .int .i64 0, .bool false, .bool false, .int .i64 0] 34) 8 (fun _ => by kernel_rfl) (fun g44 w45 hb48 hF46 hC47 => ?_)
    refine WL.storeM (c' := #[.int .i64 zeroE.flow.proto, .int .u32 zeroE.flow.src, .int .i64 zeroE.flow.sport, .int .u32 zeroE.flow.dst, .int .i64 zeroE.flow.dport, .int .u32 zeroE.dip, .int .i64 zeroE.epoch, .bool zeroE.trusted, .bool zeroE.closing, .int .i64 zeroE.last]) hC47 1 34 g44 0 (.agg #[.int .i64 zeroE.flow.proto, .int .u32 zeroE.flow.src, .int .i64 zeroE.flow.sport, .int .u32 zeroE.flow.dst, .int .i64 zeroE.flow.dport, .int .u32 zeroE.dip, .int .i64 zeroE.epoch, .bool zeroE.trusted, .bool zeroE.closing, .int .i64 zeroE.last]) (by kernel_rfl) rfl (by kernel_rfl) (fun w49 hF51 hC52 => ?_)
    refine WL.runs 1 [(9, .bool false)] (fun _ => by kernel_rfl) ?_
    refine WL.done rfl ?_
    refine QX.then_normal (hK40 _ _ ?_)
    refine WC.seq (fun K53 hK54 => ?_)
    refine WC.seq (fun K55 hK56 => ?_)
    refine WC.region ?_
    refine WL.runs 2 [(23, .bool true), (22, .bool false)] (fun _ => by kernel_rfl) ?_
    refine WL.done rfl ?_
    refine QX.then_normal (hK56 _ _ ?_)
    refine WC.cond_true rfl ?_
    refine WC.exit ?_
    refine QX.then_exit ?_
    refine QX.block_hit ?_
    refine QX.then_normal (hK21 _ _ ?_)
    refine WC.region ?_
    refine WL.runs 1 [(40, .int .i64 (IntKind.i64.wrap ((k : Int) + 1)))] (fun _ => by kernel_rfl) ?_
    refine WL.recast (show (.int .i64 (IntKind.i64.wrap ((k : Int) + 1)) : Value) = .int .i64 ((k : Int) + 1) from by rw [wrap_in_i64 ((k : Int) + 1) (by omega) (by omega)]) ?_
    refine WL.runs 1 [(12, .int .i64 ((k : Int) + 1))] (fun _ => by kernel_rfl) ?_
    refine WL.done rfl ?_
    refine QX.then_normal ?_
    have hC57 := hC52.pick [] [] rfl rfl
    refine fun a_ ha_ => hK10 _ _ _ ?_ ⟨k + 1, rfl, rfl, hC57, by omega⟩ a_ (ha_.weaken (sub_of ⟨rfl, rfl, rfl, rfl, rfl, rfl, rfl, trivial⟩))
    omega
  · -- (k : Int) < (fs.length : Int): false
    have t19 : (fs.length : Int) ≤ (k : Int) := by have q_ := of_decide_eq_false t19b; omega
    refine WC.cond_false rfl ?_
    refine WC.exit ?_
    refine QX.then_exit ?_
    refine QX.then_exit ?_
    refine QX.block_hit ?_
    refine QX.then_normal (hK6 _ _ ?_)
    refine WC.seq (fun K58 hK59 => ?_)
    refine WC.region ?_
    refine WL.runs 2 [(4, .int .i64 0), (41, .int .i64 0)] (fun _ => by kernel_rfl) ?_
    refine WL.done rfl ?_
    refine QX.then_normal (hK59 _ _ ?_)
    refine WC.ret ?_
    refine (hret _ _ _ rfl ?_).1
    clear hN hret hret' hK59 hK18 hK16 hK8 hK6 hK4 hK2
    exact ⟨rfl, hC14.fr⟩

theorem Remove_ct (p b : Nat) (T : Tb) (A : Option Addr) (c : Nat) (fs : List Flow) (w : World) (ht : tbAt w p b T) (hth : -1000000000 ≤ T.th ∧ T.th ≤ 1000000000) (huh : -1000000000 ≤ T.uh ∧ T.uh ≤ 1000000000) (hr : Rd w 5 cellsF A fs) (hd : ∀ g o, A = some ⟨g, o, none⟩ → g ≠ p ∧ g ≠ b) (hm : fs.length < 1000000000) : Calls Try.prog 24 #[.pointer (some ⟨p, 0, none⟩), .slice A fs.length c] w fun e w' => e = .returned (.int .i64 (fs.foldl remF (T, 0)).2) ∧ Fr w w' [p, b] ∧ tbAt w' p b (fs.foldl remF (T, 0)).1 := by
  refine enterD (n := 42) Try.func24 rfl rfl (Nat.le_of_ble_eq_true rfl) ?_
  intro Q0 hN hret hret'
  obtain ⟨hpb, hp_, es, cl, hb_, hm_⟩ := ht
  have hC := Cx.startMs w [(p, .cells #[.map (some b), .int .i64 T.th, .int .i64 T.tm, .int .i64 T.uh, .int .i64 T.um] 75), (b, .map es cl)] (by simpa using hpb) (by simp [hp_, hb_])
  refine WC.seq (fun K1 hK2 => ?_)
  refine WC.region ?_
  refine WL.runs 1 [(4, .int .i64 0)] (fun _ => by kernel_rfl) ?_
  refine WL.done rfl ?_
  refine QX.then_normal (hK2 _ _ ?_)
  refine WC.seq (fun K3 hK4 => ?_)
  refine WC.region ?_
  refine WL.runs 1 [(5, .int .i64 0)] (fun _ => by kernel_rfl) ?_
  refine WL.done rfl ?_
  refine QX.then_normal (hK4 _ _ ?_)
  refine WC.seq (fun K5 hK6 => ?_)
  refine WC.seq (fun K7 hK8 => ?_)
  refine WC.region ?_
  refine WL.runs 3 [(12, .int .i64 0), (11, .int .i64 (fs.length : Int)), (10, .slice A fs.length c)] (fun _ => by kernel_rfl) ?_
  refine WL.done rfl ?_
  refine QX.then_normal (hK8 _ _ ?_)
  refine WC.block ?_
  refine WC.loop (fun m_ E_ w_ => ∃ (k : Nat) (es2 : Array MapEntry) (cl2 : Nat) (Tk : Tb) (n : Int), m_ = fs.length - k ∧ E_ = [(0, .pointer (some ⟨p, 0, none⟩)), (1, .slice A fs.length c), (4, .int .i64 0), (5, .int .i64 n), (10, .slice A fs.length c), (11, .int .i64 (fs.length : Int)), (12, .int .i64 (k : Int))] ∧ Cx w [p, b] w_ [(p, .cells #[.map (some b), .int .i64 Tk.th, .int .i64 Tk.tm, .int .i64 Tk.uh, .int .i64 Tk.um] 75), (b, .map es2 cl2)] [] ∧ (k ≤ fs.length ∧ MapOk encF encE es2 cl2 Tk.m ∧ (Tk, n) = (fs.take k).foldl remF (T, 0) ∧ (T.th - k ≤ Tk.th ∧ Tk.th ≤ T.th) ∧ (T.uh - k ≤ Tk.uh ∧ Tk.uh ≤ T.uh) ∧ (0 ≤ n ∧ n ≤ k))) ⟨_, _, ⟨0, es, cl, T, 0, rfl, rfl, hC, Nat.zero_le _, hm_, rfl, ⟨by omega, by omega⟩, ⟨by omega, by omega⟩, ⟨by omega, by omega⟩⟩, sub_of ⟨rfl, rfl, rfl, rfl, rfl, rfl, rfl, trivial⟩⟩ (fun m12 E_ w13 K9 hK10 hI11 => ?_)
  obtain ⟨k, es2, cl2, Tk, n, rfl, rfl, hC14, hk, hmk, hfo, hkt, hku, hkn⟩ := hI11
  skip
  refine WC.seq (fun K15 hK16 => ?_)
  refine WC.region ?_
  refine WL.runs 1 [(13, .bool (decide ((k : Int) < (fs.length : Int))))] (fun _ => by kernel_rfl) ?_
  refine WL.done rfl ?_
  refine QX.then_normal (hK16 _ _ ?_)
  refine WC.seq (fun K17 hK18 => ?_)
  refine WC.test_at 13 (decide ((k : Int) < (fs.length : Int))) rfl (fun t19b => ?_) (fun t19b => ?_)
  · -- (k : Int) < (fs.length : Int): true
    have t19 : (k : Int) < (fs.length : Int) := by have q_ := of_decide_eq_true t19b; omega
    refine WC.cond_true rfl ?_
    refine WC.skip ?_
    refine QX.then_normal (hK18 _ _ ?_)
    refine WC.seq (fun K20 hK21 => ?_)
    refine WC.block ?_
    refine WC.seq (fun K22 hK23 => ?_)
    refine WC.region ?_
    obtain ⟨e24, he25⟩ := get_some (xs := fs) (i := k) (by omega)
    obtain ⟨b26, o28, hA27, hc29⟩ := hr.at_ _ _ he25
    refine WL.index A fs.length c 14 .i64 (k : Int) b26 o28 k 5 (by kernel_rfl) hA27 (by omega) (by omega) (o28 + k * 5) (by first | (simp; done) | omega) ?_
    refine WL.load 32 (.pointer (some ⟨b26, o28 + k * 5, none⟩)) (.agg #[.int .i64 e24.proto, .int .u32 e24.src, .int .i64 e24.sport, .int .u32 e24.dst, .int .i64 e24.dport]) 15 (by kernel_rfl) (run_rdN (l := [.int .i64 e24.proto, .int .u32 e24.src, .int .i64 e24.sport, .int .u32 e24.dst, .int .i64 e24.dport]) rfl rfl (fun j u hu => by have hq_ := hC14.fr.cell (hc29 j u hu) (by first | (simp; done) | (simpa using hd _ _ (by assumption))); simpa [Nat.add_assoc] using hq_)) ?_
    refine WL.newM hC14 (fun b => .pointer (some ⟨b, 0, none⟩)) (.cells #[.int .i64 0, .int .u32 0, .int .i64 0, .int .u32 0, .int .i64 0] 32) 7 (fun _ => by kernel_rfl) (fun g30 w31 hb34 hF32 hC33 => ?_)
    refine WL.storeM (c' := #[.int .i64 e24.proto, .int .u32 e24.src, .int .i64 e24.sport, .int .u32 e24.dst, .int .i64 e24.dport]) hC33 2 32 g30 0 (.agg #[.int .i64 e24.proto, .int .u32 e24.src, .int .i64 e24.sport, .int .u32 e24.dst, .int .i64 e24.dport]) (by kernel_rfl) rfl (by kernel_rfl) (fun w35 hF37 hC38 => ?_)
    refine WL.done rfl ?_
    refine QX.then_normal (hK23 _ _ ?_)
    refine WC.seq (fun K39 hK40 => ?_)
    refine WC.region ?_
    refine WL.runs 1 [(17, .pointer (some ⟨p, 0, none⟩))] (fun _ => by kernel_rfl) ?_
    refine WL.load 32 (.pointer (some ⟨g30, 0, none⟩)) (.agg #[.int .i64 e24.proto, .int .u32 e24.src, .int .i64 e24.sport, .int .u32 e24.dst, .int .i64 e24.dport]) 18 (by kernel_rfl) (run_ld (hC38.get 2 rfl) rfl) ?_
    have hg45 := Get_ct p b (⟨Tk.m, Tk.th, Tk.tm, Tk.uh, Tk.um⟩ : Tb) e24 w35 (⟨hpb, hC38.get 0 rfl, es2, cl2, hC38.get 1 rfl, hmk⟩ : tbAt w35 p b (⟨Tk.m, Tk.th, Tk.tm, Tk.uh, Tk.um⟩ : Tb))
    obtain ⟨xv41, hxv42⟩ : ∃ x_, (lookL (⟨Tk.m, Tk.th, Tk.tm, Tk.uh, Tk.um⟩ : Tb).m e24).getD zeroE = x_ := ⟨_, rfl⟩
    obtain ⟨bv43, hbv44⟩ : ∃ b_, (lookL (⟨Tk.m, Tk.th, Tk.tm, Tk.uh, Tk.um⟩ : Tb).m e24).isSome = b_ := ⟨_, rfl⟩
    rw [hxv42, hbv44] at hg45
    refine WL.call rfl rfl rfl rfl rfl (by kernel_rfl) (hg45) ?_
    rintro _ w47 ⟨rfl, hF46⟩
    refine ⟨_, rfl, ?_⟩
    have hC48 := hC38.call hF46
    refine WL.runs 3 [(21, .bool bv43), (20, .agg #[.int .i64 xv41.flow.proto, .int .u32 xv41.flow.src, .int .i64 xv41.flow.sport, .int .u32 xv41.flow.dst, .int .i64 xv41.flow.dport, .int .u32 xv41.dip, .int .i64 xv41.epoch, .bool xv41.trusted, .bool xv41.closing, .int .i64 xv41.last]), (16, .tuple #[.agg #[.int .i64 xv41.flow.proto, .int .u32 xv41.flow.src, .int .i64 xv41.flow.sport, .int .u32 xv41.flow.dst, .int .i64 xv41.flow.dport, .int .u32 xv41.dip, .int .i64 xv41.epoch, .bool xv41.trusted, .bool xv41.closing, .int .i64 xv41.last], .bool bv43])] (fun _ => by kernel_rfl) ?_
    refine WL.newM hC48 (fun b => .pointer (some ⟨b, 0, none⟩)) (.cells #[.int .i64 0, .int .u32 0, .int .i64 0, .int .u32 0, .int .i64 0, .int .u32 0, .int .i64 0, .bool false, .bool false, .int .i64 0] 34) 8 (fun _ => by kernel_rfl) (fun g49 w50 hb53 hF51 hC52 => ?_)
    refine WL.storeM (c' := #[.int .i64 xv41.flow.proto, .int .u32 xv41.flow.src, .int .i64 xv41.flow.sport, .int .u32 xv41.flow.dst, .int .i64 xv41.flow.dport, .int .u32 xv41.dip, .int .i64 xv41.epoch, .bool xv41.trusted, .bool xv41.closing, .int .i64 xv41.last]) hC52 3 34 g49 0 (.agg #[.int .i64 xv41.flow.proto, .int .u32 xv41.flow.src, .int .i64 xv41.flow.sport, .int .u32 xv41.flow.dst, .int .i64 xv41.flow.dport, .int .u32 xv41.dip, .int .i64 xv41.epoch, .bool xv41.trusted, .bool xv41.closing, .int .i64 xv41.last]) (by kernel_rfl) rfl (by kernel_rfl) (fun w54 hF56 hC57 => ?_)
    refine WL.runs 1 [(9, .bool bv43)] (fun _ => by kernel_rfl) ?_
    refine WL.done rfl ?_
    refine QX.then_normal (hK40 _ _ ?_)
    refine WC.seq (fun K58 hK59 => ?_)
    refine WC.seq (fun K60 hK61 => ?_)
    refine WC.region ?_
    refine WL.runs 2 [(23, .bool !bv43), (22, .bool bv43)] (fun _ => by kernel_rfl) ?_
    refine WL.done rfl ?_
    refine QX.then_normal (hK61 _ _ ?_)
    refine WC.test_at 23 (!bv43) rfl (fun t62b => ?_) (fun t62b => ?_)
    · -- !bv43 = true: true
      have t62 : bv43 = false := by first | (simpa only [Bool.not_eq_true', Bool.not_eq_false'] using t62b) | simpa using t62b
      refine WC.cond_true rfl ?_
      refine WC.exit ?_
      refine QX.then_exit ?_
      refine QX.block_hit ?_
      refine QX.then_normal (hK21 _ _ ?_)
      refine WC.region ?_
      refine WL.runs 1 [(40, .int .i64 (IntKind.i64.wrap ((k : Int) + 1)))] (fun _ => by kernel_rfl) ?_
      refine WL.recast (show (.int .i64 (IntKind.i64.wrap ((k : Int) + 1)) : Value) = .int .i64 ((k : Int) + 1) from by rw [wrap_in_i64 ((k : Int) + 1) (by omega) (by omega)]) ?_
      refine WL.runs 1 [(12, .int .i64 ((k : Int) + 1))] (fun _ => by kernel_rfl) ?_
      refine WL.done rfl ?_
      refine QX.then_normal ?_
      have hC63 := hC57.pick [0, 1] [] rfl rfl
      refine fun a_ ha_ => hK10 _ _ _ ?_ ⟨k + 1, es2, cl2, Tk, n, rfl, rfl, hC63, by omega, hmk, by rw [remF_snoc he25, ← hfo, remF_none (look_none hxv42 (by rw [hbv44]; simpa using t62b)).1], by omega, by omega, by omega⟩ a_ (ha_.weaken (sub_of ⟨rfl, rfl, rfl, rfl, rfl, rfl, rfl, trivial⟩))
      omega
    · -- !bv43 = true: false
      have t62 : bv43 = true := by first | (simpa only [Bool.not_eq_true', Bool.not_eq_false'] using t62b) | simpa using t62b
      refine WC.cond_false rfl ?_
      refine WC.skip ?_
      refine QX.then_normal (hK59 _ _ ?_)
      refine WC.seq (fun K64 hK65 => ?_)
      refine WC.region ?_
      refine WL.runs 1 [(24, .pointer (some ⟨p, 0, none⟩))] (fun _ => by kernel_rfl) ?_
      refine WL.load 34 (.pointer (some ⟨g49, 0, none⟩)) (.agg #[.int .i64 xv41.flow.proto, .int .u32 xv41.flow.src, .int .i64 xv41.flow.sport, .int .u32 xv41.flow.dst, .int .i64 xv41.flow.dport, .int .u32 xv41.dip, .int .i64 xv41.epoch, .bool xv41.trusted, .bool xv41.closing, .int .i64 xv41.last]) 25 (by kernel_rfl) (run_ld (hC57.get 3 rfl) rfl) ?_
      rcases Bool.eq_false_or_eq_true xv41.trusted with htr66 | htr66
      ·
        refine WL.call rfl rfl rfl rfl rfl (by kernel_rfl) (of_t' p xv41 w54 htr66) ?_
        rintro _ w68 ⟨rfl, hF67⟩
        refine ⟨_, rfl, ?_⟩
        have hC69 := hC57.call hF67
        refine WL.runs 2 [(28, .pointer (some ⟨p, 1, none⟩)), (27, .pointer (some ⟨p, 1, none⟩))] (fun _ => by kernel_rfl) ?_
        refine WL.load 3 (.pointer (some ⟨p, 1, none⟩)) (.int .i64 Tk.th) 29 (by kernel_rfl) (run_ld (hC69.get 0 rfl) rfl) ?_
        refine WL.runs 1 [(30, .int .i64 (IntKind.i64.wrap (Tk.th - 1)))] (fun _ => by kernel_rfl) ?_
        refine WL.recast (show (.int .i64 (IntKind.i64.wrap (Tk.th - 1)) : Value) = .int .i64 (Tk.th - 1) from by rw [wrap_in_i64 (Tk.th - 1) (by omega) (by omega)]) ?_
        refine WL.runs 2 [(32, .pointer (some ⟨p, 1, none⟩)), (31, .pointer (some ⟨p, 1, none⟩))] (fun _ => by kernel_rfl) ?_
        refine WL.storeM (c' := #[.map (some b), .int .i64 (Tk.th - 1), .int .i64 Tk.tm, .int .i64 Tk.uh, .int .i64 Tk.um]) hC69 0 3 p 1 (.int .i64 (Tk.th - 1)) (by kernel_rfl) rfl (by kernel_rfl) (fun w70 hF72 hC73 => ?_)
        refine WL.done rfl ?_
        refine QX.then_normal (hK65 _ _ ?_)
        refine WC.seq (fun K74 hK75 => ?_)
        refine WC.drawC hC73 [b] (by kernel_rfl) (fun w76 hF77 hC78 hS79 => ?_)
        refine WD.pure (NoPanic.then (NoPanic.block (NoPanic.then (NoPanic.then (NoPanic.block (NoPanic.then hN)))))) 0 33 (.pointer (some ⟨p, 0, none⟩)) (by kernel_rfl) (fun _ => by kernel_rfl) hS79 ?_
        refine WD.pure (NoPanic.then (NoPanic.block (NoPanic.then (NoPanic.then (NoPanic.block (NoPanic.then hN)))))) 1 34 (.pointer (some ⟨p, 0, none⟩)) (by kernel_rfl) (fun _ => by kernel_rfl) hS79 ?_
        refine WD.pure (NoPanic.then (NoPanic.block (NoPanic.then (NoPanic.then (NoPanic.block (NoPanic.then hN)))))) 2 35 (.pointer (some ⟨p, 0, none⟩)) (by kernel_rfl) (fun _ => by kernel_rfl) hS79 ?_
        refine WD.load (NoPanic.then (NoPanic.block (NoPanic.then (NoPanic.then (NoPanic.block (NoPanic.then hN)))))) 3 71 (.pointer (some ⟨p, 0, none⟩)) (.map (some b)) 36 (by kernel_rfl) (by kernel_rfl) (fun _ hS_ => run_ld (Fr.has hS_ (hC78.get 0 rfl) (by simpa using hC78.ne 0 1 rfl rfl (by decide))) rfl) hS79 ?_
        refine WD.sem 4 (Instr.loadAt 32 (.pointer (some ⟨g30, 0, none⟩))) 37 (.agg #[.int .i64 e24.proto, .int .u32 e24.src, .int .i64 e24.sport, .int .u32 e24.dst, .int .i64 e24.dport]) (by kernel_rfl) (by kernel_rfl) (run_ld (hC78.get 2 rfl) rfl) hS79 ?_
        obtain ⟨w80, es81, hr82, hF83, hC84, hm85⟩ := delM_run (P := Try.prog) (ek := encF) (ev := encE) (ty := 0) hC78 1 rfl (show Try.prog.underlying 71 = some (.map 32 34) from by kernel_rfl) keyF hmk e24 32
        have hS86 := hS79.trans hF83 (by simp)
        refine WD.semN 5 (Builtin.delete_ #[71, 32] 0 #[.map (some b), .agg #[.int .i64 e24.proto, .int .u32 e24.src, .int .i64 e24.sport, .int .u32 e24.dst, .int .i64 e24.dport]]) _ (by kernel_rfl) (by kernel_rfl) hr82 hS86 ?_
        refine WD.done (by kernel_rfl) ?_
        refine QX.then_normal (hK75 _ _ ?_)
        refine WC.region ?_
        refine WL.runs 2 [(39, .int .i64 (IntKind.i64.wrap (n + 1))), (38, .int .i64 n)] (fun _ => by kernel_rfl) ?_
        refine WL.recast (show (.int .i64 (IntKind.i64.wrap (n + 1)) : Value) = .int .i64 (n + 1) from by rw [wrap_in_i64 (n + 1) (by omega) (by omega)]) ?_
        refine WL.runs 1 [(5, .int .i64 (n + 1))] (fun _ => by kernel_rfl) ?_
        refine WL.done rfl ?_
        refine QX.block_normal ?_
        refine QX.then_normal (hK21 _ _ ?_)
        refine WC.region ?_
        refine WL.runs 1 [(40, .int .i64 (IntKind.i64.wrap ((k : Int) + 1)))] (fun _ => by kernel_rfl) ?_
        refine WL.recast (show (.int .i64 (IntKind.i64.wrap ((k : Int) + 1)) : Value) = .int .i64 ((k : Int) + 1) from by rw [wrap_in_i64 ((k : Int) + 1) (by omega) (by omega)]) ?_
        refine WL.runs 1 [(12, .int .i64 ((k : Int) + 1))] (fun _ => by kernel_rfl) ?_
        refine WL.done rfl ?_
        refine QX.then_normal ?_
        have hC87 := hC84.pick [0, 1] [] rfl rfl
        refine fun a_ ha_ => hK10 _ _ _ ?_ ⟨k + 1, es81, cl2, (⟨(delL Tk.m e24), Tk.th - 1, Tk.tm, Tk.uh, Tk.um⟩ : Tb), n + 1, rfl, rfl, hC87, by omega, hm85, by rw [remF_snoc he25, ← hfo, remF_some (look_some hxv42 (by rw [hbv44]; simpa using t62b))]; simp [htr66], by dsimp only; omega, by dsimp only; omega, by omega⟩ a_ (ha_.weaken (sub_of ⟨rfl, rfl, rfl, rfl, rfl, rfl, rfl, trivial⟩))
        omega
      ·
        refine WL.call rfl rfl rfl rfl rfl (by kernel_rfl) (of_u' p xv41 w54 htr66) ?_
        rintro _ w89 ⟨rfl, hF88⟩
        refine ⟨_, rfl, ?_⟩
        have hC90 := hC57.call hF88
        refine WL.runs 2 [(28, .pointer (some ⟨p, 3, none⟩)), (27, .pointer (some ⟨p, 3, none⟩))] (fun _ => by kernel_rfl) ?_
        refine WL.load 3 (.pointer (some ⟨p, 3, none⟩)) (.int .i64 Tk.uh) 29 (by kernel_rfl) (run_ld (hC90.get 0 rfl) rfl) ?_
        refine WL.runs 1 [(30, .int .i64 (IntKind.i64.wrap (Tk.uh - 1)))] (fun _ => by kernel_rfl) ?_
        refine WL.recast (show (.int .i64 (IntKind.i64.wrap (Tk.uh - 1)) : Value) = .int .i64 (Tk.uh - 1) from by rw [wrap_in_i64 (Tk.uh - 1) (by omega) (by omega)]) ?_
        refine WL.runs 2 [(32, .pointer (some ⟨p, 3, none⟩)), (31, .pointer (some ⟨p, 3, none⟩))] (fun _ => by kernel_rfl) ?_
        refine WL.storeM (c' := #[.map (some b), .int .i64 Tk.th, .int .i64 Tk.tm, .int .i64 (Tk.uh - 1), .int .i64 Tk.um]) hC90 0 3 p 3 (.int .i64 (Tk.uh - 1)) (by kernel_rfl) rfl (by kernel_rfl) (fun w91 hF93 hC94 => ?_)
        refine WL.done rfl ?_
        refine QX.then_normal (hK65 _ _ ?_)
        refine WC.seq (fun K95 hK96 => ?_)
        refine WC.drawC hC94 [b] (by kernel_rfl) (fun w97 hF98 hC99 hS100 => ?_)
        refine WD.pure (NoPanic.then (NoPanic.block (NoPanic.then (NoPanic.then (NoPanic.block (NoPanic.then hN)))))) 0 33 (.pointer (some ⟨p, 0, none⟩)) (by kernel_rfl) (fun _ => by kernel_rfl) hS100 ?_
        refine WD.pure (NoPanic.then (NoPanic.block (NoPanic.then (NoPanic.then (NoPanic.block (NoPanic.then hN)))))) 1 34 (.pointer (some ⟨p, 0, none⟩)) (by kernel_rfl) (fun _ => by kernel_rfl) hS100 ?_
        refine WD.pure (NoPanic.then (NoPanic.block (NoPanic.then (NoPanic.then (NoPanic.block (NoPanic.then hN)))))) 2 35 (.pointer (some ⟨p, 0, none⟩)) (by kernel_rfl) (fun _ => by kernel_rfl) hS100 ?_
        refine WD.load (NoPanic.then (NoPanic.block (NoPanic.then (NoPanic.then (NoPanic.block (NoPanic.then hN)))))) 3 71 (.pointer (some ⟨p, 0, none⟩)) (.map (some b)) 36 (by kernel_rfl) (by kernel_rfl) (fun _ hS_ => run_ld (Fr.has hS_ (hC99.get 0 rfl) (by simpa using hC99.ne 0 1 rfl rfl (by decide))) rfl) hS100 ?_
        refine WD.sem 4 (Instr.loadAt 32 (.pointer (some ⟨g30, 0, none⟩))) 37 (.agg #[.int .i64 e24.proto, .int .u32 e24.src, .int .i64 e24.sport, .int .u32 e24.dst, .int .i64 e24.dport]) (by kernel_rfl) (by kernel_rfl) (run_ld (hC99.get 2 rfl) rfl) hS100 ?_
        obtain ⟨w101, es102, hr103, hF104, hC105, hm106⟩ := delM_run (P := Try.prog) (ek := encF) (ev := encE) (ty := 0) hC99 1 rfl (show Try.prog.underlying 71 = some (.map 32 34) from by kernel_rfl) keyF hmk e24 32
        have hS107 := hS100.trans hF104 (by simp)
        refine WD.semN 5 (Builtin.delete_ #[71, 32] 0 #[.map (some b), .agg #[.int .i64 e24.proto, .int .u32 e24.src, .int .i64 e24.sport, .int .u32 e24.dst, .int .i64 e24.dport]]) _ (by kernel_rfl) (by kernel_rfl) hr103 hS107 ?_
        refine WD.done (by kernel_rfl) ?_
        refine QX.then_normal (hK96 _ _ ?_)
        refine WC.region ?_
        refine WL.runs 2 [(39, .int .i64 (IntKind.i64.wrap (n + 1))), (38, .int .i64 n)] (fun _ => by kernel_rfl) ?_
        refine WL.recast (show (.int .i64 (IntKind.i64.wrap (n + 1)) : Value) = .int .i64 (n + 1) from by rw [wrap_in_i64 (n + 1) (by omega) (by omega)]) ?_
        refine WL.runs 1 [(5, .int .i64 (n + 1))] (fun _ => by kernel_rfl) ?_
        refine WL.done rfl ?_
        refine QX.block_normal ?_
        refine QX.then_normal (hK21 _ _ ?_)
        refine WC.region ?_
        refine WL.runs 1 [(40, .int .i64 (IntKind.i64.wrap ((k : Int) + 1)))] (fun _ => by kernel_rfl) ?_
        refine WL.recast (show (.int .i64 (IntKind.i64.wrap ((k : Int) + 1)) : Value) = .int .i64 ((k : Int) + 1) from by rw [wrap_in_i64 ((k : Int) + 1) (by omega) (by omega)]) ?_
        refine WL.runs 1 [(12, .int .i64 ((k : Int) + 1))] (fun _ => by kernel_rfl) ?_
        refine WL.done rfl ?_
        refine QX.then_normal ?_
        have hC108 := hC105.pick [0, 1] [] rfl rfl
        refine fun a_ ha_ => hK10 _ _ _ ?_ ⟨k + 1, es102, cl2, (⟨(delL Tk.m e24), Tk.th, Tk.tm, Tk.uh - 1, Tk.um⟩ : Tb), n + 1, rfl, rfl, hC108, by omega, hm106, by rw [remF_snoc he25, ← hfo, remF_some (look_some hxv42 (by rw [hbv44]; simpa using t62b))]; simp [htr66], by dsimp only; omega, by dsimp only; omega, by omega⟩ a_ (ha_.weaken (sub_of ⟨rfl, rfl, rfl, rfl, rfl, rfl, rfl, trivial⟩))
        omega
  · -- (k : Int) < (fs.length : Int): false
    have t19 : (fs.length : Int) ≤ (k : Int) := by have q_ := of_decide_eq_false t19b; omega
    refine WC.cond_false rfl ?_
    refine WC.exit ?_
    refine QX.then_exit ?_
    refine QX.then_exit ?_
    refine QX.block_hit ?_
    refine QX.then_normal (hK6 _ _ ?_)
    refine WC.seq (fun K109 hK110 => ?_)
    refine WC.region ?_
    refine WL.runs 2 [(4, .int .i64 n), (41, .int .i64 n)] (fun _ => by kernel_rfl) ?_
    refine WL.done rfl ?_
    refine QX.then_normal (hK110 _ _ ?_)
    refine WC.ret ?_
    refine (hret _ _ _ rfl ?_).1
    clear hN hret hret' hK110 hK18 hK16 hK8 hK6 hK4 hK2
    have hk2_ : fs.take k = fs := List.take_of_length_le (by omega)
    rw [hk2_] at hfo
    rw [← hfo]
    exact ⟨rfl, hC14.fr, hpb, hC14.get 0 rfl, _, _, hC14.get 1 rfl, hmk⟩

end Go.Proofs.Ytimphmcoafapgaa
