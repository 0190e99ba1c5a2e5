/- Contracts of functions of the program, each proved by a walk through its code; conditions stand in the statements. -/
import Derived.Test.YtimphmcoafapgaaFlE11
namespace Go.Proofs.Ytimphmcoafapgaa
set_option linter.unusedSimpArgs false
set_option linter.unusedVariables false
set_option linter.unusedSectionVars false
open Go Go.RowKit Go.Tw
set_option linter.unusedVariables false
set_option maxRecDepth 20000
theorem newF_of {w0 w : World} {F0 : List Nat} {M : List (Nat × Obj)} {Fs : List (List Nat)} {F : List Nat} (h : Cx w0 F0 w M Fs) (j : Nat) (hj : Fs[j]? = some F) (_h0 : ∀ x ∈ F0, x < w0.heap.size) (hn : ∀ q ∈ F0, q ∉ F) : ∀ x ∈ F, w0.heap.size ≤ x := fun x hx => by
  rcases h.ownF F (List.mem_of_getElem? hj) x hx with h1 | h1
  · exact absurd hx (hn x h1)
  · exact h1
theorem All1_ct (p b : Nat) (T : Tb)  (w : World) (ht : tbAt w p b T) (hm1 : T.m.length ≤ 1) : Calls Try.prog 17 #[.pointer (some ⟨p, 0, none⟩)] w fun e w' => ∃ v, e = .returned v ∧ Fr w w' [] ∧ w'.ownsRow w.heap.size 34 10 v (entsOf T.m).length ((entsOf T.m).flatMap cellsE) := by
  refine enterD (n := 24) Try.func17 rfl rfl (Nat.le_of_ble_eq_true rfl) ?_
  intro Q0 hN hret hret'
  obtain ⟨hpb, hp_, es, cl, hb_, hm_⟩ := ht
  have hC := Cx.startMs w [(p, .cells #[.map (some b), .int .i64 T.th, .int .i64 T.tm, .int .i64 T.uh, .int .i64 T.um] 75), (b, .map es cl)] (by simpa using hpb) (by simp [hp_, hb_])
  refine WC.seq (fun K1 hK2 => ?_)
  refine WC.region ?_
  refine WL.runs 1 [(2, .slice none 0 0)] (fun _ => by kernel_rfl) ?_
  refine WL.done rfl ?_
  refine QX.then_normal (hK2 _ _ ?_)
  refine WC.seq (fun K3 hK4 => ?_)
  refine WC.seq (fun K5 hK6 => ?_)
  refine WC.region ?_
  refine WL.runs 2 [(7, .bool false), (6, .pointer (some ⟨p, 0, none⟩))] (fun _ => by kernel_rfl) ?_
  refine WL.done rfl ?_
  refine QX.then_normal (hK6 _ _ ?_)
  refine WC.cond_false rfl ?_
  refine WC.skip ?_
  refine QX.then_normal (hK4 _ _ ?_)
  refine WC.seq (fun K7 hK8 => ?_)
  refine WC.region ?_
  refine WL.runs 1 [(3, .slice none 0 0)] (fun _ => by kernel_rfl) ?_
  refine WL.done rfl ?_
  refine QX.then_normal (hK8 _ _ ?_)
  refine WC.seq (fun K9 hK10 => ?_)
  refine WC.seq (fun K11 hK12 => ?_)
  refine WC.region ?_
  refine WL.runs 3 [(10, .pointer (some ⟨p, 0, none⟩)), (9, .pointer (some ⟨p, 0, none⟩)), (8, .pointer (some ⟨p, 0, none⟩))] (fun _ => by kernel_rfl) ?_
  refine WL.load 71 (.pointer (some ⟨p, 0, none⟩)) (.map (some b)) 11 (by kernel_rfl) (run_ld (hC.get 0 rfl) rfl) ?_
  obtain ⟨it13, w14, hr15, hF16, hC17, hge18⟩ := range_run (P := Try.prog) hC 1 rfl (t := 71) (show Try.prog.underlying 71 = some (.map 32 34) from by kernel_rfl)
  refine WL.sem (Instr.range 71 (.map (some b))) 12 (.pointer (some ⟨it13, 0, none⟩)) (by kernel_rfl) hr15 ?_
  refine WL.done rfl ?_
  refine QX.then_normal (hK12 _ _ ?_)
  refine WC.block ?_
  have hC19 := hC17.addNil
  refine WC.loop (fun m_ E_ w_ => ∃ (seen20 : Array Nat) (vis20 left20 : List (Flow × Ent)) (A5 : Option Addr) (n5 c5 : Nat), m_ = left20.length ∧ E_ = [(0, .pointer (some ⟨p, 0, none⟩)), (2, .slice none 0 0), (3, .slice A5 n5 c5), (6, .pointer (some ⟨p, 0, none⟩)), (7, .bool false), (8, .pointer (some ⟨p, 0, none⟩)), (9, .pointer (some ⟨p, 0, none⟩)), (10, .pointer (some ⟨p, 0, none⟩)), (11, .map (some b)), (12, .pointer (some ⟨it13, 0, none⟩))] ∧ Cx w [p, b] w_ [(p, .cells #[.map (some b), .int .i64 T.th, .int .i64 T.tm, .int .i64 T.uh, .int .i64 T.um] 75), (b, .map es cl), (it13, .mapIter (some b) cl seen20 cl)] [blk (.slice A5 n5 c5)] ∧ World.ownsRow w_ 0 34 10 (.slice A5 n5 c5) n5 ((entsOf vis20).flatMap cellsE) ∧ (It encF encE es seen20 T.m vis20 left20)) ⟨_, _, ⟨#[], [], T.m, none, 0, 0, rfl, rfl, hC19, own_nil _ _ _ _, (It.start hm_)⟩, sub_of ⟨rfl, rfl, rfl, rfl, rfl, rfl, rfl, rfl, rfl, rfl, trivial⟩⟩ (fun m24 E_ w25 K21 hK22 hI23 => ?_)
  obtain ⟨seen20, vis20, left20, A5, n5, c5, rfl, rfl, hC26, hrow, hit20⟩ := hI23
  have hvl_ : vis20.length ≤ 1 := by have q_ := hit20.all.length_eq; simp only [List.length_append] at q_; omega
  have hcn_ := own_count cellsE_len (by decide) hrow
  rw [entsOf_len] at hcn_
  refine WC.seq (fun K27 hK28 => ?_)
  refine WC.region ?_
  rcases next_run (P := Try.prog) hC26 1 2 rfl rfl hm_ hit20 0 with ⟨hl29, hr30⟩ | ⟨p31, l32, l33, seen34, w35, hl29, hr30, hF36, hC37, hit38, hent39⟩
  · -- nothing is left
    refine WL.sem (Instr.next (.pointer (some ⟨it13, 0, none⟩)) false 0) 13 (.tuple #[.bool false]) (by kernel_rfl) hr30 ?_
    refine WL.runs 1 [(14, .bool false)] (fun _ => by kernel_rfl) ?_
    refine WL.done rfl ?_
    refine QX.then_normal (hK28 _ _ ?_)
    refine WC.seq (fun K40 hK41 => ?_)
    refine WC.cond_false rfl ?_
    refine WC.exit ?_
    refine QX.then_exit ?_
    refine QX.then_exit ?_
    refine QX.block_hit ?_
    refine QX.then_normal (hK10 _ _ ?_)
    refine WC.seq (fun K42 hK43 => ?_)
    refine WC.region ?_
    refine WL.runs 1 [(21, .slice A5 n5 c5)] (fun _ => by kernel_rfl) ?_
    refine WL.call rfl rfl rfl rfl rfl (by kernel_rfl) (sort_le1 A5 n5 c5 (by omega) w25) ?_
    rintro _ w45 ⟨rfl, hF44⟩
    refine ⟨_, rfl, ?_⟩
    have hC46 := hC26.call hF44
    have ho47 := own_fr hrow hF44 (by simp)
    refine WL.done rfl ?_
    refine QX.then_normal (hK43 _ _ ?_)
    refine WC.seq (fun K48 hK49 => ?_)
    refine WC.region ?_
    refine WL.runs 2 [(2, .slice A5 n5 c5), (23, .slice A5 n5 c5)] (fun _ => by kernel_rfl) ?_
    refine WL.done rfl ?_
    refine QX.then_normal (hK49 _ _ ?_)
    refine WC.ret ?_
    refine (hret _ _ _ rfl ?_).1
    clear hN hret hret' hK49 hK43 hK41 hK28 hK12 hK10 hK8 hK6 hK4 hK2
    have hv_ : vis20 = T.m := perm_le1 (hit20.perm_end hl29) hm1
    have ho_ := ho47
    rw [hv_] at ho_ hcn_
    subst hcn_
    exact ⟨_, rfl, hC46.fr.shrink (by intro x hx; simp at hx; rcases hx with rfl | rfl; exact (hC46.get 0 rfl).trans hp_.symm; exact (hC46.get 1 rfl).trans hb_.symm), by rw [entsOf_len]; exact own_base ho_ (newF_of hC46 0 rfl (by intro x hx; simp at hx; rcases hx with rfl | rfl; exact lt_of_heap hp_; exact lt_of_heap hb_) (fun q_ hq_ => by simp at hq_; rcases hq_ with rfl | rfl; exact hC46.notin 0 0 rfl rfl; exact hC46.notin 0 1 rfl rfl))⟩
  · -- one more
    refine WL.sem (Instr.next (.pointer (some ⟨it13, 0, none⟩)) false 0) 13 (.tuple #[.bool true, .agg #[.int .i64 p31.1.proto, .int .u32 p31.1.src, .int .i64 p31.1.sport, .int .u32 p31.1.dst, .int .i64 p31.1.dport], .agg #[.int .i64 p31.2.flow.proto, .int .u32 p31.2.flow.src, .int .i64 p31.2.flow.sport, .int .u32 p31.2.flow.dst, .int .i64 p31.2.flow.dport, .int .u32 p31.2.dip, .int .i64 p31.2.epoch, .bool p31.2.trusted, .bool p31.2.closing, .int .i64 p31.2.last]]) (by kernel_rfl) hr30 ?_
    have ho50 := own_fr hrow hF36 (hC26.apartM 0 2 rfl rfl)
    refine WL.runs 1 [(14, .bool true)] (fun _ => by kernel_rfl) ?_
    refine WL.done rfl ?_
    refine QX.then_normal (hK28 _ _ ?_)
    refine WC.seq (fun K51 hK52 => ?_)
    refine WC.cond_true rfl ?_
    refine WC.skip ?_
    refine QX.then_normal (hK52 _ _ ?_)
    refine WC.block ?_
    refine WC.seq (fun K53 hK54 => ?_)
    refine WC.region ?_
    refine WL.sem (Instr.entry (.pointer (some ⟨it13, 0, none⟩))) 15 (.tuple #[.agg #[.int .i64 p31.1.proto, .int .u32 p31.1.src, .int .i64 p31.1.sport, .int .u32 p31.1.dst, .int .i64 p31.1.dport], .agg #[.int .i64 p31.2.flow.proto, .int .u32 p31.2.flow.src, .int .i64 p31.2.flow.sport, .int .u32 p31.2.flow.dst, .int .i64 p31.2.flow.dport, .int .u32 p31.2.dip, .int .i64 p31.2.epoch, .bool p31.2.trusted, .bool p31.2.closing, .int .i64 p31.2.last]]) (by kernel_rfl) (hent39 _ (hC37.get 2 rfl) (hC37.get 1 rfl)) ?_
    refine WL.runs 1 [(16, .agg #[.int .i64 p31.2.flow.proto, .int .u32 p31.2.flow.src, .int .i64 p31.2.flow.sport, .int .u32 p31.2.flow.dst, .int .i64 p31.2.flow.dport, .int .u32 p31.2.dip, .int .i64 p31.2.epoch, .bool p31.2.trusted, .bool p31.2.closing, .int .i64 p31.2.last])] (fun _ => by kernel_rfl) ?_
    refine WL.newM hC37 (fun b => .pointer (some ⟨b, 0, none⟩)) (.cells #[.int .i64 0, .int .u32 0, .int .i64 0, .int .u32 0, .int .i64 0, .int .u32 0, .int .i64 0, .bool false, .bool false, .int .i64 0] 34) 5 (fun _ => by kernel_rfl) (fun g55 w56 hb59 hF57 hC58 => ?_)
    have ho60 := own_fr ho50 hF57 (by simp)
    refine WL.storeM (c' := #[.int .i64 p31.2.flow.proto, .int .u32 p31.2.flow.src, .int .i64 p31.2.flow.sport, .int .u32 p31.2.flow.dst, .int .i64 p31.2.flow.dport, .int .u32 p31.2.dip, .int .i64 p31.2.epoch, .bool p31.2.trusted, .bool p31.2.closing, .int .i64 p31.2.last]) hC58 3 34 g55 0 (.agg #[.int .i64 p31.2.flow.proto, .int .u32 p31.2.flow.src, .int .i64 p31.2.flow.sport, .int .u32 p31.2.flow.dst, .int .i64 p31.2.flow.dport, .int .u32 p31.2.dip, .int .i64 p31.2.epoch, .bool p31.2.trusted, .bool p31.2.closing, .int .i64 p31.2.last]) (by kernel_rfl) rfl (by kernel_rfl) (fun w61 hF63 hC64 => ?_)
    have ho65 := own_fr ho60 hF63 (hC58.apartM 0 3 rfl rfl)
    refine WL.done rfl ?_
    refine QX.then_normal (hK54 _ _ ?_)
    refine WC.region ?_
    refine WL.runs 1 [(17, .slice A5 n5 c5)] (fun _ => by kernel_rfl) ?_
    refine WL.load 34 (.pointer (some ⟨g55, 0, none⟩)) (.agg #[.int .i64 p31.2.flow.proto, .int .u32 p31.2.flow.src, .int .i64 p31.2.flow.sport, .int .u32 p31.2.flow.dst, .int .i64 p31.2.flow.dport, .int .u32 p31.2.dip, .int .i64 p31.2.epoch, .bool p31.2.trusted, .bool p31.2.closing, .int .i64 p31.2.last]) 18 (by kernel_rfl) (run_ld (hC64.get 3 rfl) rfl) ?_
    refine WL.newM hC64 (fun b => .slice (some ⟨b, 0, none⟩) 1 1) (.cells #[.int .i64 p31.2.flow.proto, .int .u32 p31.2.flow.src, .int .i64 p31.2.flow.sport, .int .u32 p31.2.flow.dst, .int .i64 p31.2.flow.dport, .int .u32 p31.2.dip, .int .i64 p31.2.epoch, .bool p31.2.trusted, .bool p31.2.closing, .int .i64 p31.2.last] 34) 19 (fun _ => by kernel_rfl) (fun g66 w67 hb70 hF68 hC69 => ?_)
    have ho71 := own_fr ho65 hF68 (by simp)
    obtain ⟨v72, w73, hr74, ho75, hF76, hC77, hnil78, hsub79⟩ := app_run Try.prog hC69 0 (v := .slice A5 n5 c5) rfl 44 44 34 10 72 n5 1 1 (some ⟨g66, 0, none⟩) rfl ho71 [.int .i64 p31.2.flow.proto, .int .u32 p31.2.flow.src, .int .i64 p31.2.flow.sport, .int .u32 p31.2.flow.dst, .int .i64 p31.2.flow.dport, .int .u32 p31.2.dip, .int .i64 p31.2.epoch, .bool p31.2.trusted, .bool p31.2.closing, .int .i64 p31.2.last] rfl (srcOk.blk 1 (hC69.get 4 rfl)) rfl (by simp only [maxLen]; omega) (by omega)
    have ho83 := own_snoc (enc := cellsE) (ys := (entsOf vis20)) p31.2 ho75
    obtain ⟨A80, c81, rfl, hle82⟩ := own_form ho83
    refine WL.sem (Builtin.append_ #[44, 44] 44 #[.slice A5 n5 c5, .slice (some ⟨g66, 0, none⟩) 1 1]) 20 (.slice A80 (n5 + 1) c81) (by kernel_rfl) hr74 ?_
    refine WL.runs 1 [(3, .slice A80 (n5 + 1) c81)] (fun _ => by kernel_rfl) ?_
    refine WL.done rfl ?_
    refine QX.block_normal ?_
    refine QX.then_normal ?_
    have hC84 := hC77.pick [0, 1, 2] [0] rfl rfl
    refine fun a_ ha_ => hK22 _ _ _ ?_ ⟨seen34, (vis20 ++ [p31]), (l32 ++ l33), A80, n5 + 1, c81, rfl, rfl, hC84, by rw [map_snoc2]; exact ho83, hit38⟩ a_ (ha_.weaken (sub_of ⟨rfl, rfl, rfl, rfl, rfl, rfl, rfl, rfl, rfl, rfl, trivial⟩))
    rw [hl29]; simp

theorem goodTime_bd {now : Int} (h : goodTime now = true) : 0 ≤ now ∧ now ≤ 1099511627776 := by simpa [goodTime] using h
theorem idle_ct (x : Ent) (now : Int) (w : World) (h0 : 0 ≤ now ∧ now ≤ 1099511627776) (h1 : 0 ≤ x.last ∧ x.last ≤ 1099511627776) : Calls Try.prog 35 #[.agg #[.int .i64 x.flow.proto, .int .u32 x.flow.src, .int .i64 x.flow.sport, .int .u32 x.flow.dst, .int .i64 x.flow.dport, .int .u32 x.dip, .int .i64 x.epoch, .bool x.trusted, .bool x.closing, .int .i64 x.last], .int .i64 now] w fun e w' => e = .returned (.bool (idleB x now)) ∧ Fr w w' [] := by
  refine enterD (n := 18) Try.func35 rfl rfl (Nat.le_of_ble_eq_true rfl) ?_
  intro Q0 hN hret hret'
  have hC := Cx.start w
  refine WC.seq (fun K1 hK2 => ?_)
  refine WC.region ?_
  refine WL.newM hC (fun b => .pointer (some ⟨b, 0, none⟩)) (.cells #[.int .i64 x.flow.proto, .int .u32 x.flow.src, .int .i64 x.flow.sport, .int .u32 x.flow.dst, .int .i64 x.flow.dport, .int .u32 x.dip, .int .i64 x.epoch, .bool x.trusted, .bool x.closing, .int .i64 x.last] 34) 2 (fun _ => by kernel_rfl) (fun g3 w4 hb7 hF5 hC6 => ?_)
  refine WL.runs 1 [(4, .bool false)] (fun _ => by kernel_rfl) ?_
  refine WL.done rfl ?_
  refine QX.then_normal (hK2 _ _ ?_)
  refine WC.seq (fun K8 hK9 => ?_)
  refine WC.region ?_
  refine WL.runs 1 [(5, .int .i64 10)] (fun _ => by kernel_rfl) ?_
  refine WL.done rfl ?_
  refine QX.then_normal (hK9 _ _ ?_)
  refine WC.seq (fun K10 hK11 => ?_)
  refine WC.block ?_
  refine WC.seq (fun K12 hK13 => ?_)
  refine WC.region ?_
  refine WL.runs 1 [(7, .pointer (some ⟨g3, 8, none⟩))] (fun _ => by kernel_rfl) ?_
  refine WL.load 4 (.pointer (some ⟨g3, 8, none⟩)) (.bool x.closing) 8 (by kernel_rfl) (run_ld (hC6.get 0 rfl) rfl) ?_
  refine WL.runs 1 [(6, .bool x.closing)] (fun _ => by kernel_rfl) ?_
  refine WL.done rfl ?_
  refine QX.then_normal (hK13 _ _ ?_)
  refine WC.test_at 6 (x.closing) rfl (fun t14b => ?_) (fun t14b => ?_)
  · -- x.closing = true: true
    refine WC.cond_true rfl ?_
    refine WC.region ?_
    refine WL.runs 1 [(5, .int .i64 5)] (fun _ => by kernel_rfl) ?_
    refine WL.done rfl ?_
    refine QX.block_normal ?_
    refine QX.then_normal (hK11 _ _ ?_)
    refine WC.seq (fun K15 hK16 => ?_)
    refine WC.region ?_
    refine WL.runs 2 [(13, .pointer (some ⟨g3, 9, none⟩)), (12, .int .i64 now)] (fun _ => by kernel_rfl) ?_
    refine WL.load 3 (.pointer (some ⟨g3, 9, none⟩)) (.int .i64 x.last) 14 (by kernel_rfl) (run_ld (hC6.get 0 rfl) rfl) ?_
    refine WL.runs 1 [(15, .int .i64 (IntKind.i64.wrap (now - x.last)))] (fun _ => by kernel_rfl) ?_
    refine WL.recast (show (.int .i64 (IntKind.i64.wrap (now - x.last)) : Value) = .int .i64 (now - x.last) from by rw [wrap_in_i64 (now - x.last) (by omega) (by omega)]) ?_
    refine WL.runs 3 [(4, .bool (decide ((now - x.last) > 5))), (17, .bool (decide ((now - x.last) > 5))), (16, .int .i64 5)] (fun _ => by kernel_rfl) ?_
    refine WL.done rfl ?_
    refine QX.then_normal (hK16 _ _ ?_)
    refine WC.ret ?_
    refine (hret _ _ _ rfl ?_).1
    clear hN hret hret' hK16 hK13 hK11 hK9 hK2
    exact ⟨by simp [shut, idleB, *], hC6.fr⟩
  · -- x.closing = true: false
    refine WC.cond_false rfl ?_
    refine WC.seq (fun K17 hK18 => ?_)
    refine WC.region ?_
    refine WL.runs 1 [(10, .pointer (some ⟨g3, 7, none⟩))] (fun _ => by kernel_rfl) ?_
    refine WL.load 4 (.pointer (some ⟨g3, 7, none⟩)) (.bool x.trusted) 11 (by kernel_rfl) (run_ld (hC6.get 0 rfl) rfl) ?_
    refine WL.runs 1 [(9, .bool x.trusted)] (fun _ => by kernel_rfl) ?_
    refine WL.done rfl ?_
    refine QX.then_normal (hK18 _ _ ?_)
    refine WC.test_at 9 (x.trusted) rfl (fun t19b => ?_) (fun t19b => ?_)
    · -- x.trusted = true: true
      refine WC.cond_true rfl ?_
      refine WC.region ?_
      refine WL.runs 1 [(5, .int .i64 60)] (fun _ => by kernel_rfl) ?_
      refine WL.done rfl ?_
      refine QX.block_normal ?_
      refine QX.then_normal (hK11 _ _ ?_)
      refine WC.seq (fun K20 hK21 => ?_)
      refine WC.region ?_
      refine WL.runs 2 [(13, .pointer (some ⟨g3, 9, none⟩)), (12, .int .i64 now)] (fun _ => by kernel_rfl) ?_
      refine WL.load 3 (.pointer (some ⟨g3, 9, none⟩)) (.int .i64 x.last) 14 (by kernel_rfl) (run_ld (hC6.get 0 rfl) rfl) ?_
      refine WL.runs 1 [(15, .int .i64 (IntKind.i64.wrap (now - x.last)))] (fun _ => by kernel_rfl) ?_
      refine WL.recast (show (.int .i64 (IntKind.i64.wrap (now - x.last)) : Value) = .int .i64 (now - x.last) from by rw [wrap_in_i64 (now - x.last) (by omega) (by omega)]) ?_
      refine WL.runs 3 [(4, .bool (decide ((now - x.last) > 60))), (17, .bool (decide ((now - x.last) > 60))), (16, .int .i64 60)] (fun _ => by kernel_rfl) ?_
      refine WL.done rfl ?_
      refine QX.then_normal (hK21 _ _ ?_)
      refine WC.ret ?_
      refine (hret _ _ _ rfl ?_).1
      clear hN hret hret' hK21 hK18 hK13 hK11 hK9 hK2
      exact ⟨by simp [shut, idleB, *], hC6.fr⟩
    · -- x.trusted = true: false
      refine WC.cond_false rfl ?_
      refine WC.skip ?_
      refine QX.block_normal ?_
      refine QX.then_normal (hK11 _ _ ?_)
      refine WC.seq (fun K22 hK23 => ?_)
      refine WC.region ?_
      refine WL.runs 2 [(13, .pointer (some ⟨g3, 9, none⟩)), (12, .int .i64 now)] (fun _ => by kernel_rfl) ?_
      refine WL.load 3 (.pointer (some ⟨g3, 9, none⟩)) (.int .i64 x.last) 14 (by kernel_rfl) (run_ld (hC6.get 0 rfl) rfl) ?_
      refine WL.runs 1 [(15, .int .i64 (IntKind.i64.wrap (now - x.last)))] (fun _ => by kernel_rfl) ?_
      refine WL.recast (show (.int .i64 (IntKind.i64.wrap (now - x.last)) : Value) = .int .i64 (now - x.last) from by rw [wrap_in_i64 (now - x.last) (by omega) (by omega)]) ?_
      refine WL.runs 3 [(4, .bool (decide ((now - x.last) > 10))), (17, .bool (decide ((now - x.last) > 10))), (16, .int .i64 10)] (fun _ => by kernel_rfl) ?_
      refine WL.done rfl ?_
      refine QX.then_normal (hK23 _ _ ?_)
      refine WC.ret ?_
      refine (hret _ _ _ rfl ?_).1
      clear hN hret hret' hK23 hK18 hK13 hK11 hK9 hK2
      exact ⟨by simp [shut, idleB, *], hC6.fr⟩

end Go.Proofs.Ytimphmcoafapgaa
