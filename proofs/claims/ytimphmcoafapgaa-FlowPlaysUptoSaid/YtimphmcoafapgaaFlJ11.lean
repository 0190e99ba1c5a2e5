/- Contracts of functions of the program, each proved by a walk through its code; conditions stand in the statements. -/
import Derived.Test.YtimphmcoafapgaaFlK11
namespace Go.Proofs.Ytimphmcoafapgaa
set_option linter.unusedSimpArgs false
set_option linter.unusedVariables false
set_option linter.unusedSectionVars false
open Go Go.RowKit Go.Tw
set_option linter.unusedVariables false
set_option maxRecDepth 20000
theorem SortE_n (A : Option Addr) (n c : Nat) (D : List Ent) (w : World) (hcn : D.length = n) (hn : (D.map (·.flow)).Nodup) (ho : w.ownsRow 0 34 10 (.slice A n c) n (D.flatMap cellsE)) (hl : D.length < 4611686018427387904) : Calls Try.prog 36 #[.slice A n c, .func (.func 37) #[] #[]] w fun e w' => e = .returned (.tuple #[]) ∧ Fr w w' (blk (.slice A n c)) ∧ w'.ownsRow 0 34 10 (.slice A n c) n ((D.mergeSort leE).flatMap cellsE) := by subst hcn; exact SortE_ct A c D w hn ho hl
theorem All_ct (p b : Nat) (T : Tb)  (w : World) (ht : tbAt w p b T) (hfl : ∀ p ∈ T.m, p.2.flow = p.1) (hml : T.m.length ≤ 1000000) : Calls Try.prog 17 #[.pointer (some ⟨p, 0, none⟩)] w fun e w' => ∃ v, e = .returned v ∧ Fr w w' [] ∧ w'.ownsRow w.heap.size 34 10 v (allE T.m).length ((allE T.m).flatMap cellsE) := by
  refine enterD (n := 24) Try.func17 rfl rfl (Nat.le_of_ble_eq_true rfl) ?_
  intro Q0 hN hret hret'
  obtain ⟨hpb, hp_, es, cl, hb_, hm_⟩ := ht
  have hC := Cx.startMs w [(p, .cells #[.map (some b), .int .i64 T.th, .int .i64 T.tm, .int .i64 T.uh, .int .i64 T.um] 75), (b, .map es cl)] (by simpa using hpb) (by simp [hp_, hb_])
  refine WC.seq (fun K1 hK2 => ?_)
  refine WC.region ?_
  refine WL.runs 1 [(2, .slice none 0 0)] (fun _ => by kernel_rfl) ?_
  refine WL.done rfl ?_
  refine QX.then_normal (hK2 _ _ ?_)
  refine WC.seq (fun K3 hK4 => ?_)
  refine WC.seq (fun K5 hK6 => ?_)
  refine WC.region ?_
  refine WL.runs 2 [(7, .bool false), (6, .pointer (some ⟨p, 0, none⟩))] (fun _ => by kernel_rfl) ?_
  refine WL.done rfl ?_
  refine QX.then_normal (hK6 _ _ ?_)
  refine WC.cond_false rfl ?_
  refine WC.skip ?_
  refine QX.then_normal (hK4 _ _ ?_)
  refine WC.seq (fun K7 hK8 => ?_)
  refine WC.region ?_
  refine WL.runs 1 [(3, .slice none 0 0)] (fun _ => by kernel_rfl) ?_
  refine WL.done rfl ?_
  refine QX.then_normal (hK8 _ _ ?_)
  refine WC.seq (fun K9 hK10 => ?_)
  refine WC.seq (fun K11 hK12 => ?_)
  refine WC.region ?_
  refine WL.runs 3 [(10, .pointer (some ⟨p, 0, none⟩)), (9, .pointer (some ⟨p, 0, none⟩)), (8, .pointer (some ⟨p, 0, none⟩))] (fun _ => by kernel_rfl) ?_
  refine WL.load 71 (.pointer (some ⟨p, 0, none⟩)) (.map (some b)) 11 (by kernel_rfl) (run_ld (hC.get 0 rfl) rfl) ?_
  obtain ⟨it13, w14, hr15, hF16, hC17, hge18⟩ := range_run (P := Try.prog) hC 1 rfl (t := 71) (show Try.prog.underlying 71 = some (.map 32 34) from by kernel_rfl)
  refine WL.sem (Instr.range 71 (.map (some b))) 12 (.pointer (some ⟨it13, 0, none⟩)) (by kernel_rfl) hr15 ?_
  refine WL.done rfl ?_
  refine QX.then_normal (hK12 _ _ ?_)
  refine WC.block ?_
  have hC19 := hC17.addNil
  refine WC.loop (fun m_ E_ w_ => ∃ (seen20 : Array Nat) (vis20 left20 : List (Flow × Ent)) (A5 : Option Addr) (n5 c5 : Nat), m_ = left20.length ∧ E_ = [(0, .pointer (some ⟨p, 0, none⟩)), (2, .slice none 0 0), (3, .slice A5 n5 c5), (6, .pointer (some ⟨p, 0, none⟩)), (7, .bool false), (8, .pointer (some ⟨p, 0, none⟩)), (9, .pointer (some ⟨p, 0, none⟩)), (10, .pointer (some ⟨p, 0, none⟩)), (11, .map (some b)), (12, .pointer (some ⟨it13, 0, none⟩))] ∧ Cx w [p, b] w_ [(p, .cells #[.map (some b), .int .i64 T.th, .int .i64 T.tm, .int .i64 T.uh, .int .i64 T.um] 75), (b, .map es cl), (it13, .mapIter (some b) cl seen20 cl)] [blk (.slice A5 n5 c5)] ∧ World.ownsRow w_ 0 34 10 (.slice A5 n5 c5) n5 ((entsOf vis20).flatMap cellsE) ∧ (It encF encE es seen20 T.m vis20 left20)) ⟨_, _, ⟨#[], [], T.m, none, 0, 0, rfl, rfl, hC19, own_nil _ _ _ _, (It.start hm_)⟩, sub_of ⟨rfl, rfl, rfl, rfl, rfl, rfl, rfl, rfl, rfl, rfl, trivial⟩⟩ (fun m24 E_ w25 K21 hK22 hI23 => ?_)
  obtain ⟨seen20, vis20, left20, A5, n5, c5, rfl, rfl, hC26, hrow, hit20⟩ := hI23
  have hvl_ : vis20.length ≤ T.m.length := by have q_ := hit20.all.length_eq; simp only [List.length_append] at q_; omega
  have hcn_ := own_count cellsE_len (by decide) hrow
  rw [entsOf_len] at hcn_
  refine WC.seq (fun K27 hK28 => ?_)
  refine WC.region ?_
  rcases next_run (P := Try.prog) hC26 1 2 rfl rfl hm_ hit20 0 with ⟨hl29, hr30⟩ | ⟨p31, l32, l33, seen34, w35, hl29, hr30, hF36, hC37, hit38, hent39⟩
  · -- nothing is left
    refine WL.sem (Instr.next (.pointer (some ⟨it13, 0, none⟩)) false 0) 13 (.tuple #[.bool false]) (by kernel_rfl) hr30 ?_
    refine WL.runs 1 [(14, .bool false)] (fun _ => by kernel_rfl) ?_
    refine WL.done rfl ?_
    refine QX.then_normal (hK28 _ _ ?_)
    refine WC.seq (fun K40 hK41 => ?_)
    refine WC.cond_false rfl ?_
    refine WC.exit ?_
    refine QX.then_exit ?_
    refine QX.then_exit ?_
    refine QX.block_hit ?_
    refine QX.then_normal (hK10 _ _ ?_)
    refine WC.seq (fun K42 hK43 => ?_)
    refine WC.region ?_
    refine WL.runs 1 [(21, .slice A5 n5 c5)] (fun _ => by kernel_rfl) ?_
    have hpm_ : vis20.Perm T.m := hit20.perm_end hl29
    have hvn_ : (vis20.map (·.1)).Nodup := ((hpm_.map _).nodup_iff).2 hm_.keys
    have hvl2_ := hpm_.length_eq
    have hall_ := allE_perm (D := entsOf vis20) hm_.keys hfl (hpm_.map _)
    refine WL.call rfl rfl rfl rfl rfl (by kernel_rfl) (SortE_n A5 n5 c5 (entsOf vis20) w25 (by rw [entsOf_len]; exact hcn_) (flows_nodup hvn_ (fun p_ hp_ => hfl p_ (hpm_.mem_iff.1 hp_))) hrow (by rw [entsOf_len]; omega)) ?_
    rintro _ w45 ⟨rfl, hF44, ho46⟩
    rw [hall_] at ho46
    have hC47 := hC26.callF 0 rfl hF44 (fun _ hx_ => .inl hx_) (own_lt ho46)
    refine ⟨_, rfl, ?_⟩
    refine WL.done rfl ?_
    refine QX.then_normal (hK43 _ _ ?_)
    refine WC.seq (fun K48 hK49 => ?_)
    refine WC.region ?_
    refine WL.runs 2 [(2, .slice A5 n5 c5), (23, .slice A5 n5 c5)] (fun _ => by kernel_rfl) ?_
    refine WL.done rfl ?_
    refine QX.then_normal (hK49 _ _ ?_)
    refine WC.ret ?_
    refine (hret _ _ _ rfl ?_).1
    clear hN hret hret' hK49 hK43 hK41 hK28 hK12 hK10 hK8 hK6 hK4 hK2
    have hn5_ : (allE T.m).length = n5 := by rw [allE_len]; omega
    subst hn5_
    exact ⟨_, rfl, hC47.fr.shrink (by intro x hx; simp at hx; rcases hx with rfl | rfl; exact (hC47.get 0 rfl).trans hp_.symm; exact (hC47.get 1 rfl).trans hb_.symm), own_base ho46 (newF_of hC47 0 rfl (by intro x hx; simp at hx; rcases hx with rfl | rfl; exact lt_of_heap hp_; exact lt_of_heap hb_) (fun q_ hq_ => by simp at hq_; rcases hq_ with rfl | rfl; exact hC47.notin 0 0 rfl rfl; exact hC47.notin 0 1 rfl rfl))⟩
  · -- one more
    refine WL.sem (Instr.next (.pointer (some ⟨it13, 0, none⟩)) false 0) 13 (.tuple #[.bool true, .agg #[.int .i64 p31.1.proto, .int .u32 p31.1.src, .int .i64 p31.1.sport, .int .u32 p31.1.dst, .int .i64 p31.1.dport], .agg #[.int .i64 p31.2.flow.proto, .int .u32 p31.2.flow.src, .int .i64 p31.2.flow.sport, .int .u32 p31.2.flow.dst, .int .i64 p31.2.flow.dport, .int .u32 p31.2.dip, .int .i64 p31.2.epoch, .bool p31.2.trusted, .bool p31.2.closing, .int .i64 p31.2.last]]) (by kernel_rfl) hr30 ?_
    have ho50 := own_fr hrow hF36 (hC26.apartM 0 2 rfl rfl)
    refine WL.runs 1 [(14, .bool true)] (fun _ => by kernel_rfl) ?_
    refine WL.done rfl ?_
    refine QX.then_normal (hK28 _ _ ?_)
    refine WC.seq (fun K51 hK52 => ?_)
    refine WC.cond_true rfl ?_
    refine WC.skip ?_
    refine QX.then_normal (hK52 _ _ ?_)
    refine WC.block ?_
    refine WC.seq (fun K53 hK54 => ?_)
    refine WC.region ?_
    refine WL.sem (Instr.entry (.pointer (some ⟨it13, 0, none⟩))) 15 (.tuple #[.agg #[.int .i64 p31.1.proto, .int .u32 p31.1.src, .int .i64 p31.1.sport, .int .u32 p31.1.dst, .int .i64 p31.1.dport], .agg #[.int .i64 p31.2.flow.proto, .int .u32 p31.2.flow.src, .int .i64 p31.2.flow.sport, .int .u32 p31.2.flow.dst, .int .i64 p31.2.flow.dport, .int .u32 p31.2.dip, .int .i64 p31.2.epoch, .bool p31.2.trusted, .bool p31.2.closing, .int .i64 p31.2.last]]) (by kernel_rfl) (hent39 _ (hC37.get 2 rfl) (hC37.get 1 rfl)) ?_
    refine WL.runs 1 [(16, .agg #[.int .i64 p31.2.flow.proto, .int .u32 p31.2.flow.src, .int .i64 p31.2.flow.sport, .int .u32 p31.2.flow.dst, .int .i64 p31.2.flow.dport, .int .u32 p31.2.dip, .int .i64 p31.2.epoch, .bool p31.2.trusted, .bool p31.2.closing, .int .i64 p31.2.last])] (fun _ => by kernel_rfl) ?_
    refine WL.newM hC37 (fun b => .pointer (some ⟨b, 0, none⟩)) (.cells #[.int .i64 0, .int .u32 0, .int .i64 0, .int .u32 0, .int .i64 0, .int .u32 0, .int .i64 0, .bool false, .bool false, .int .i64 0] 34) 5 (fun _ => by kernel_rfl) (fun g55 w56 hb59 hF57 hC58 => ?_)
    have ho60 := own_fr ho50 hF57 (by simp)
    refine WL.storeM (c' := #[.int .i64 p31.2.flow.proto, .int .u32 p31.2.flow.src, .int .i64 p31.2.flow.sport, .int .u32 p31.2.flow.dst, .int .i64 p31.2.flow.dport, .int .u32 p31.2.dip, .int .i64 p31.2.epoch, .bool p31.2.trusted, .bool p31.2.closing, .int .i64 p31.2.last]) hC58 3 34 g55 0 (.agg #[.int .i64 p31.2.flow.proto, .int .u32 p31.2.flow.src, .int .i64 p31.2.flow.sport, .int .u32 p31.2.flow.dst, .int .i64 p31.2.flow.dport, .int .u32 p31.2.dip, .int .i64 p31.2.epoch, .bool p31.2.trusted, .bool p31.2.closing, .int .i64 p31.2.last]) (by kernel_rfl) rfl (by kernel_rfl) (fun w61 hF63 hC64 => ?_)
    have ho65 := own_fr ho60 hF63 (hC58.apartM 0 3 rfl rfl)
    refine WL.done rfl ?_
    refine QX.then_normal (hK54 _ _ ?_)
    refine WC.region ?_
    refine WL.runs 1 [(17, .slice A5 n5 c5)] (fun _ => by kernel_rfl) ?_
    refine WL.load 34 (.pointer (some ⟨g55, 0, none⟩)) (.agg #[.int .i64 p31.2.flow.proto, .int .u32 p31.2.flow.src, .int .i64 p31.2.flow.sport, .int .u32 p31.2.flow.dst, .int .i64 p31.2.flow.dport, .int .u32 p31.2.dip, .int .i64 p31.2.epoch, .bool p31.2.trusted, .bool p31.2.closing, .int .i64 p31.2.last]) 18 (by kernel_rfl) (run_ld (hC64.get 3 rfl) rfl) ?_
    refine WL.newM hC64 (fun b => .slice (some ⟨b, 0, none⟩) 1 1) (.cells #[.int .i64 p31.2.flow.proto, .int .u32 p31.2.flow.src, .int .i64 p31.2.flow.sport, .int .u32 p31.2.flow.dst, .int .i64 p31.2.flow.dport, .int .u32 p31.2.dip, .int .i64 p31.2.epoch, .bool p31.2.trusted, .bool p31.2.closing, .int .i64 p31.2.last] 34) 19 (fun _ => by kernel_rfl) (fun g66 w67 hb70 hF68 hC69 => ?_)
    have ho71 := own_fr ho65 hF68 (by simp)
    obtain ⟨v72, w73, hr74, ho75, hF76, hC77, hnil78, hsub79⟩ := app_run Try.prog hC69 0 (v := .slice A5 n5 c5) rfl 44 44 34 10 72 n5 1 1 (some ⟨g66, 0, none⟩) rfl ho71 [.int .i64 p31.2.flow.proto, .int .u32 p31.2.flow.src, .int .i64 p31.2.flow.sport, .int .u32 p31.2.flow.dst, .int .i64 p31.2.flow.dport, .int .u32 p31.2.dip, .int .i64 p31.2.epoch, .bool p31.2.trusted, .bool p31.2.closing, .int .i64 p31.2.last] rfl (srcOk.blk 1 (hC69.get 4 rfl)) rfl (by simp only [maxLen]; omega) (by omega)
    have ho83 := own_snoc (enc := cellsE) (ys := (entsOf vis20)) p31.2 ho75
    obtain ⟨A80, c81, rfl, hle82⟩ := own_form ho83
    refine WL.sem (Builtin.append_ #[44, 44] 44 #[.slice A5 n5 c5, .slice (some ⟨g66, 0, none⟩) 1 1]) 20 (.slice A80 (n5 + 1) c81) (by kernel_rfl) hr74 ?_
    refine WL.runs 1 [(3, .slice A80 (n5 + 1) c81)] (fun _ => by kernel_rfl) ?_
    refine WL.done rfl ?_
    refine QX.block_normal ?_
    refine QX.then_normal ?_
    have hC84 := hC77.pick [0, 1, 2] [0] rfl rfl
    refine fun a_ ha_ => hK22 _ _ _ ?_ ⟨seen34, (vis20 ++ [p31]), (l32 ++ l33), A80, n5 + 1, c81, rfl, rfl, hC84, by rw [map_snoc2]; exact ho83, hit38⟩ a_ (ha_.weaken (sub_of ⟨rfl, rfl, rfl, rfl, rfl, rfl, rfl, rfl, rfl, rfl, trivial⟩))
    rw [hl29]; simp

def outXF (m : List (Flow × Ent)) (now : Int) : List Flow := ((allE m).filter (idleB · now)).map (·.flow)
def outX (T : Tb) (now : Int) : List Flow × Tb := if goodTime now then (outXF T.m now, ((outXF T.m now).foldl remF (T, 0)).1) else ([], T)
theorem TOk.outX {T : Tb} (h : TOk T) (now : Int) : TOk (outX T now).2 := by
  unfold Go.Proofs.Ytimphmcoafapgaa.outX
  exact ite_ind (fun x : List Flow × Tb => TOk x.2) (fun _ => h.remF _ _) (fun _ => h)
theorem outX_ms (T : Tb) (now : Int) : (outX T now).2.tm = T.tm ∧ (outX T now).2.um = T.um := by
  unfold outX
  exact ite_ind (fun x : List Flow × Tb => x.2.tm = T.tm ∧ x.2.um = T.um) (fun _ => remF_ms _ _ _) (fun _ => ⟨rfl, rfl⟩)
theorem outXF_len (m : List (Flow × Ent)) (now : Int) : (outXF m now).length ≤ m.length := by
  unfold outXF; rw [List.length_map]; have := List.length_filter_le (idleB · now) (allE m); rw [allE_len] at this; exact this
theorem outX_len (T : Tb) (now : Int) : (outX T now).1.length ≤ T.m.length := by
  unfold outX
  exact ite_ind (fun x : List Flow × Tb => x.1.length ≤ T.m.length) (fun _ => outXF_len _ _) (fun _ => Nat.zero_le _)
theorem last_of {T : Tb} (h : TOk T) {i : Nat} {e : Ent} (he : (allE T.m)[i]? = some e) : 0 ≤ e.last ∧ e.last ≤ 1099511627776 := by
  have := mem_allE.1 (List.mem_of_getElem? he)
  obtain ⟨p, hp, rfl⟩ := List.mem_map.1 this
  exact h.last p hp
theorem Expire_ct (p b : Nat) (T : Tb) (now : Int) (w : World) (ht : tbAt w p b T) (hok : TOk T) : Calls Try.prog 15 #[.pointer (some ⟨p, 0, none⟩), .int .i64 now] w fun e w' => ∃ v, e = .returned v ∧ Fr w w' [p, b] ∧ tbAt w' p b (outX T now).2 ∧ w'.ownsRow w.heap.size 32 5 v (outX T now).1.length ((outX T now).1.flatMap cellsF) := by
  refine enterD (n := 31) Try.func15 rfl rfl (Nat.le_of_ble_eq_true rfl) ?_
  intro Q0 hN hret hret'
  have hC := Cx.start1 w (tbAt_lt ht)
  have hbd_ := hok.bd
  have hth := hok.bth
  have huh := hok.buh
  refine WC.seq (fun K1 hK2 => ?_)
  refine WC.region ?_
  refine WL.runs 1 [(4, .slice none 0 0)] (fun _ => by kernel_rfl) ?_
  refine WL.done rfl ?_
  refine QX.then_normal (hK2 _ _ ?_)
  refine WC.seq (fun K3 hK4 => ?_)
  refine WC.seq (fun K5 hK6 => ?_)
  refine WC.region ?_
  refine WL.runs 1 [(8, .int .i64 now)] (fun _ => by kernel_rfl) ?_
  refine WL.call rfl rfl rfl rfl rfl (by kernel_rfl) (goodTime_ct now w) ?_
  rintro _ w8 ⟨rfl, hF7⟩
  refine ⟨_, rfl, ?_⟩
  have hC9 := hC.call hF7
  have hf10 := tbAt_fr ht hF7 (by simp)
  refine WL.runs 1 [(10, .bool (!(goodTime now)))] (fun _ => by kernel_rfl) ?_
  refine WL.done rfl ?_
  refine QX.then_normal (hK6 _ _ ?_)
  refine WC.test_at 10 (!(goodTime now)) rfl (fun t11b => ?_) (fun t11b => ?_)
  · -- (!(goodTime now)) = true: true
    have t11 : (goodTime now) = false := by first | (simpa only [Bool.not_eq_true', Bool.not_eq_false'] using t11b) | simpa using t11b
    refine WC.cond_true rfl ?_
    refine WC.seq (fun K12 hK13 => ?_)
    refine WC.region ?_
    refine WL.runs 1 [(4, .slice none 0 0)] (fun _ => by kernel_rfl) ?_
    refine WL.done rfl ?_
    refine QX.then_normal (hK13 _ _ ?_)
    refine WC.ret ?_
    refine QX.then_ret ?_
    refine (hret _ _ _ rfl ?_).1
    clear hN hret hret' hK13 hK6 hK4 hK2
    have ho_ : outX T now = ([], T) := by unfold outX; rw [if_neg (by simp [t11, t11b])]
    rw [ho_]
    exact ⟨_, rfl, hC9.fr, hf10, own_nil _ _ _ _⟩
  · -- (!(goodTime now)) = true: false
    have t11 : (goodTime now) = true := by first | (simpa only [Bool.not_eq_true', Bool.not_eq_false'] using t11b) | simpa using t11b
    refine WC.cond_false rfl ?_
    refine WC.skip ?_
    refine QX.then_normal (hK4 _ _ ?_)
    refine WC.seq (fun K14 hK15 => ?_)
    refine WC.region ?_
    refine WL.runs 1 [(5, .slice none 0 0)] (fun _ => by kernel_rfl) ?_
    refine WL.done rfl ?_
    refine QX.then_normal (hK15 _ _ ?_)
    refine WC.seq (fun K16 hK17 => ?_)
    refine WC.seq (fun K18 hK19 => ?_)
    refine WC.region ?_
    refine WL.runs 1 [(11, .pointer (some ⟨p, 0, none⟩))] (fun _ => by kernel_rfl) ?_
    refine WL.call rfl rfl rfl rfl rfl (by kernel_rfl) (All_ct p b T w8 hf10 hok.flow (Nat.le_trans hok.bd.2.2 (by decide))) ?_
    rintro _ w22 ⟨v_, rfl, hF21, ho20⟩
    have hC23 := hC9.callN hF21 (own_ge ho20) (own_lt ho20)
    obtain ⟨A24, c25, rfl, hle26⟩ := own_form ho20
    have ho28 := own_base (b' := 0) ho20 (fun _ _ => Nat.zero_le _)
    refine ⟨_, rfl, ?_⟩
    have hf29 := tbAt_fr hf10 hF21 (by simp)
    refine WL.runs 2 [(14, .int .i64 0), (13, .int .i64 ((allE T.m).length : Int))] (fun _ => by kernel_rfl) ?_
    refine WL.done rfl ?_
    refine QX.then_normal (hK19 _ _ ?_)
    refine WC.block ?_
    have hC31 := hC23.addNil
    have hel_ : (allE T.m).length ≤ 8192 := by rw [allE_len]; exact hbd_.2.2
    refine WC.loop (fun m_ E_ w_ => ∃ (k : Nat) (A5 : Option Addr) (n5 c5 : Nat), m_ = (allE T.m).length - k ∧ E_ = [(0, .pointer (some ⟨p, 0, none⟩)), (1, .int .i64 now), (4, .slice none 0 0), (5, .slice A5 n5 c5), (8, .int .i64 now), (9, .bool (goodTime now)), (10, .bool false), (11, .pointer (some ⟨p, 0, none⟩)), (12, .slice A24 ((allE T.m).length) c25), (13, .int .i64 ((allE T.m).length : Int)), (14, .int .i64 (k : Int))] ∧ Cx w [p, b] w_ [] [[p, b], blk (.slice A24 ((allE T.m).length) c25), blk (.slice A5 n5 c5)] ∧ tbAt w_ p b T ∧ World.ownsRow w_ 0 34 10 (.slice A24 ((allE T.m).length) c25) ((allE T.m).length) ((allE T.m).flatMap cellsE) ∧ World.ownsRow w_ 0 32 5 (.slice A5 n5 c5) n5 (((((allE T.m).take k).filter (idleB · now)).map (·.flow)).flatMap cellsF) ∧ (k ≤ (allE T.m).length)) ⟨_, _, ⟨0, none, 0, 0, rfl, rfl, hC31, hf29, ho28, own_nil _ _ _ _, Nat.zero_le _⟩, sub_of ⟨rfl, rfl, rfl, rfl, rfl, rfl, rfl, rfl, rfl, rfl, rfl, trivial⟩⟩ (fun m35 E_ w36 K32 hK33 hI34 => ?_)
    obtain ⟨k, A5, n5, c5, rfl, rfl, hC37, tbl_m35, row30_m35, hrow, hk⟩ := hI34
    have hcn_ := own_count cellsF_len (by decide) hrow
    have hcl_ : n5 ≤ 8192 := by rw [← hcn_]; simp only [List.length_map]; have q1_ := List.length_filter_le (idleB · now) ((allE T.m).take k); have q2_ := List.length_take_le k (allE T.m); omega
    refine WC.seq (fun K38 hK39 => ?_)
    refine WC.region ?_
    refine WL.runs 1 [(15, .bool (decide ((k : Int) < ((allE T.m).length : Int))))] (fun _ => by kernel_rfl) ?_
    refine WL.done rfl ?_
    refine QX.then_normal (hK39 _ _ ?_)
    refine WC.seq (fun K40 hK41 => ?_)
    refine WC.test_at 15 (decide ((k : Int) < ((allE T.m).length : Int))) rfl (fun t42b => ?_) (fun t42b => ?_)
    · -- (k : Int) < ((allE T.m).length : Int): true
      have t42 : (k : Int) < ((allE T.m).length : Int) := by have q_ := of_decide_eq_true t42b; omega
      refine WC.cond_true rfl ?_
      refine WC.skip ?_
      refine QX.then_normal (hK41 _ _ ?_)
      refine WC.seq (fun K43 hK44 => ?_)
      refine WC.block ?_
      refine WC.seq (fun K45 hK46 => ?_)
      refine WC.region ?_
      have hn51 := own_count cellsE_len (by decide) row30_m35
      obtain ⟨e47, he48⟩ := get_some (xs := (allE T.m)) (i := k) (by omega)
      obtain ⟨b49, hA50⟩ := own_addr (by decide) cellsE_len row30_m35 he48
      refine WL.index A24 ((allE T.m).length) c25 16 .i64 (k : Int) b49 0 k 10 (by kernel_rfl) hA50 (by omega) (by omega) (k * 10) (by first | (simp; done) | omega) ?_
      refine WL.load 34 (.pointer (some ⟨b49, k * 10, none⟩)) (.agg #[.int .i64 e47.flow.proto, .int .u32 e47.flow.src, .int .i64 e47.flow.sport, .int .u32 e47.flow.dst, .int .i64 e47.flow.dport, .int .u32 e47.dip, .int .i64 e47.epoch, .bool e47.trusted, .bool e47.closing, .int .i64 e47.last]) 17 (by kernel_rfl) (run_rdN (l := [.int .i64 e47.flow.proto, .int .u32 e47.flow.src, .int .i64 e47.flow.sport, .int .u32 e47.flow.dst, .int .i64 e47.flow.dport, .int .u32 e47.dip, .int .i64 e47.epoch, .bool e47.trusted, .bool e47.closing, .int .i64 e47.last]) rfl rfl (fun j u hu => by have hq_ := Rd.cell (own_rd row30_m35 cellsE_len (by decide)) hA50 he48 j u hu; simpa [Nat.add_assoc] using hq_)) ?_
      refine WL.newM hC37 (fun b => .pointer (some ⟨b, 0, none⟩)) (.cells #[.int .i64 0, .int .u32 0, .int .i64 0, .int .u32 0, .int .i64 0, .int .u32 0, .int .i64 0, .bool false, .bool false, .int .i64 0] 34) 7 (fun _ => by kernel_rfl) (fun g52 w53 hb56 hF54 hC55 => ?_)
      have hf57 := tbAt_fr tbl_m35 hF54 (by simp)
      have ho58 := own_fr row30_m35 hF54 (by simp)
      have ho59 := own_fr hrow hF54 (by simp)
      refine WL.storeM (c' := #[.int .i64 e47.flow.proto, .int .u32 e47.flow.src, .int .i64 e47.flow.sport, .int .u32 e47.flow.dst, .int .i64 e47.flow.dport, .int .u32 e47.dip, .int .i64 e47.epoch, .bool e47.trusted, .bool e47.closing, .int .i64 e47.last]) hC55 0 34 g52 0 (.agg #[.int .i64 e47.flow.proto, .int .u32 e47.flow.src, .int .i64 e47.flow.sport, .int .u32 e47.flow.dst, .int .i64 e47.flow.dport, .int .u32 e47.dip, .int .i64 e47.epoch, .bool e47.trusted, .bool e47.closing, .int .i64 e47.last]) (by kernel_rfl) rfl (by kernel_rfl) (fun w60 hF62 hC63 => ?_)
      have hf64 := tbAt_fr hf57 hF62 (hC55.apartM 0 0 rfl rfl)
      have ho65 := own_fr ho58 hF62 (hC55.apartM 1 0 rfl rfl)
      have ho66 := own_fr ho59 hF62 (hC55.apartM 2 0 rfl rfl)
      refine WL.done rfl ?_
      refine QX.then_normal (hK46 _ _ ?_)
      refine WC.seq (fun K67 hK68 => ?_)
      refine WC.region ?_
      refine WL.load 34 (.pointer (some ⟨g52, 0, none⟩)) (.agg #[.int .i64 e47.flow.proto, .int .u32 e47.flow.src, .int .i64 e47.flow.sport, .int .u32 e47.flow.dst, .int .i64 e47.flow.dport, .int .u32 e47.dip, .int .i64 e47.epoch, .bool e47.trusted, .bool e47.closing, .int .i64 e47.last]) 18 (by kernel_rfl) (run_ld (hC63.get 0 rfl) rfl) ?_
      refine WL.runs 1 [(19, .int .i64 now)] (fun _ => by kernel_rfl) ?_
      refine WL.call rfl rfl rfl rfl rfl (by kernel_rfl) (idle_ct e47 now w60 (goodTime_bd (by assumption)) (by exact last_of hok he48)) ?_
      rintro _ w70 ⟨rfl, hF69⟩
      refine ⟨_, rfl, ?_⟩
      have hC71 := hC63.call hF69
      have hf72 := tbAt_fr hf64 hF69 (by simp)
      have ho73 := own_fr ho65 hF69 (by simp)
      have ho74 := own_fr ho66 hF69 (by simp)
      refine WL.done rfl ?_
      refine QX.then_normal (hK68 _ _ ?_)
      refine WC.test_at 20 (idleB e47 now) rfl (fun t75b => ?_) (fun t75b => ?_)
      · -- (idleB e47 now) = true: true
        refine WC.cond_true rfl ?_
        refine WC.region ?_
        refine WL.runs 2 [(22, .pointer (some ⟨g52, 0, none⟩)), (21, .slice A5 n5 c5)] (fun _ => by kernel_rfl) ?_
        refine WL.load 32 (.pointer (some ⟨g52, 0, none⟩)) (.agg #[.int .i64 e47.flow.proto, .int .u32 e47.flow.src, .int .i64 e47.flow.sport, .int .u32 e47.flow.dst, .int .i64 e47.flow.dport]) 23 (by kernel_rfl) (run_ld (hC71.get 0 rfl) rfl) ?_
        refine WL.newM hC71 (fun b => .slice (some ⟨b, 0, none⟩) 1 1) (.cells #[.int .i64 e47.flow.proto, .int .u32 e47.flow.src, .int .i64 e47.flow.sport, .int .u32 e47.flow.dst, .int .i64 e47.flow.dport] 32) 24 (fun _ => by kernel_rfl) (fun g76 w77 hb80 hF78 hC79 => ?_)
        have hf81 := tbAt_fr hf72 hF78 (by simp)
        have ho82 := own_fr ho73 hF78 (by simp)
        have ho83 := own_fr ho74 hF78 (by simp)
        obtain ⟨v84, w85, hr86, ho87, hF88, hC89, hnil90, hsub91⟩ := app_run Try.prog hC79 2 (v := .slice A5 n5 c5) rfl 41 41 32 5 40 n5 1 1 (some ⟨g76, 0, none⟩) rfl ho83 [.int .i64 e47.flow.proto, .int .u32 e47.flow.src, .int .i64 e47.flow.sport, .int .u32 e47.flow.dst, .int .i64 e47.flow.dport] rfl (srcOk.blk 1 (hC79.get 1 rfl)) rfl (by simp only [maxLen]; omega) (by omega)
        have ho95 := own_snoc (enc := cellsF) (ys := ((((allE T.m).take k).filter (idleB · now)).map (·.flow))) e47.flow ho87
        obtain ⟨A92, c93, rfl, hle94⟩ := own_form ho95
        refine WL.sem (Builtin.append_ #[41, 41] 41 #[.slice A5 n5 c5, .slice (some ⟨g76, 0, none⟩) 1 1]) 25 (.slice A92 (n5 + 1) c93) (by kernel_rfl) hr86 ?_
        have hf96 := tbAt_fr hf81 hF88 (hC79.disj 0 2 rfl rfl (by decide))
        have ho97 := own_fr ho82 hF88 (hC79.disj 1 2 rfl rfl (by decide))
        refine WL.runs 1 [(5, .slice A92 (n5 + 1) c93)] (fun _ => by kernel_rfl) ?_
        refine WL.done rfl ?_
        refine QX.block_normal ?_
        refine QX.then_normal (hK44 _ _ ?_)
        refine WC.region ?_
        refine WL.runs 1 [(26, .int .i64 (IntKind.i64.wrap ((k : Int) + 1)))] (fun _ => by kernel_rfl) ?_
        refine WL.recast (show (.int .i64 (IntKind.i64.wrap ((k : Int) + 1)) : Value) = .int .i64 ((k : Int) + 1) from by rw [wrap_in_i64 ((k : Int) + 1) (by omega) (by omega)]) ?_
        refine WL.runs 1 [(14, .int .i64 ((k : Int) + 1))] (fun _ => by kernel_rfl) ?_
        refine WL.done rfl ?_
        refine QX.then_normal ?_
        have hC98 := hC89.pick [] [0, 1, 2] rfl rfl
        refine fun a_ ha_ => hK33 _ _ _ ?_ ⟨k + 1, A92, n5 + 1, c93, rfl, rfl, hC98, hf96, ho97, by rw [idle_snoc he48, if_pos t75b]; exact ho95, by omega⟩ a_ (ha_.weaken (sub_of ⟨rfl, rfl, rfl, rfl, rfl, rfl, rfl, rfl, rfl, rfl, rfl, trivial⟩))
        omega
      · -- (idleB e47 now) = true: false
        refine WC.cond_false rfl ?_
        refine WC.skip ?_
        refine QX.block_normal ?_
        refine QX.then_normal (hK44 _ _ ?_)
        refine WC.region ?_
        refine WL.runs 1 [(26, .int .i64 (IntKind.i64.wrap ((k : Int) + 1)))] (fun _ => by kernel_rfl) ?_
        refine WL.recast (show (.int .i64 (IntKind.i64.wrap ((k : Int) + 1)) : Value) = .int .i64 ((k : Int) + 1) from by rw [wrap_in_i64 ((k : Int) + 1) (by omega) (by omega)]) ?_
        refine WL.runs 1 [(14, .int .i64 ((k : Int) + 1))] (fun _ => by kernel_rfl) ?_
        refine WL.done rfl ?_
        refine QX.then_normal ?_
        have hC99 := hC71.pick [] [0, 1, 2] rfl rfl
        refine fun a_ ha_ => hK33 _ _ _ ?_ ⟨k + 1, A5, n5, c5, rfl, rfl, hC99, hf72, ho73, by rw [idle_snoc he48, if_neg (by rw [t75b]; decide), List.append_nil]; exact ho74, by omega⟩ a_ (ha_.weaken (sub_of ⟨rfl, rfl, rfl, rfl, rfl, rfl, rfl, rfl, rfl, rfl, rfl, trivial⟩))
        omega
    · -- (k : Int) < ((allE T.m).length : Int): false
      have t42 : ((allE T.m).length : Int) ≤ (k : Int) := by have q_ := of_decide_eq_false t42b; omega
      refine WC.cond_false rfl ?_
      refine WC.exit ?_
      refine QX.then_exit ?_
      refine QX.then_exit ?_
      refine QX.block_hit ?_
      refine QX.then_normal (hK17 _ _ ?_)
      refine WC.seq (fun K100 hK101 => ?_)
      refine WC.region ?_
      refine WL.runs 2 [(28, .slice A5 n5 c5), (27, .pointer (some ⟨p, 0, none⟩))] (fun _ => by kernel_rfl) ?_
      have hcr_ := own_count cellsF_len (by decide) hrow
      have hdj_ : ∀ g_ o_, A5 = some ⟨g_, o_, none⟩ → g_ ≠ p ∧ g_ ≠ b := fun g_ o_ h_ => by
        have hm_ : g_ ∈ blk (.slice A5 n5 c5) := by rw [h_]; simp [blk, Value.ownBlock]
        have hd_ := hC37.disj 2 0 rfl rfl (by decide) g_ hm_
        simpa using hd_
      have hrm106 := Remove_ct p b T A5 c5 ((((allE T.m).take k).filter (idleB · now)).map (·.flow)) w36 tbl_m35 hth huh (own_rd hrow cellsF_len (by decide)) hdj_ (by rw [hcr_]; omega)
      rw [hcr_] at hrm106
      refine WL.call rfl rfl rfl rfl rfl (by kernel_rfl) hrm106 ?_
      rintro _ w103 ⟨rfl, hF102, hT105⟩
      have hC104 := hC37.callF 0 rfl hF102 (fun _ hx_ => .inl hx_) (tbAt_lt hT105)
      refine ⟨_, rfl, ?_⟩
      have ho107 := own_fr row30_m35 hF102 (hC37.disj 1 0 rfl rfl (by decide))
      have ho108 := own_fr hrow hF102 (hC37.disj 2 0 rfl rfl (by decide))
      refine WL.done rfl ?_
      refine QX.then_normal (hK101 _ _ ?_)
      refine WC.seq (fun K109 hK110 => ?_)
      refine WC.region ?_
      refine WL.runs 2 [(4, .slice A5 n5 c5), (30, .slice A5 n5 c5)] (fun _ => by kernel_rfl) ?_
      refine WL.done rfl ?_
      refine QX.then_normal (hK110 _ _ ?_)
      refine WC.ret ?_
      refine (hret _ _ _ rfl ?_).1
      clear hN hret hret' hK110 hK101 hK41 hK39 hK19 hK17 hK15 hK6 hK4 hK2
      have hk2_ : (allE T.m).take k = allE T.m := List.take_of_length_le (by omega)
      have ho_ := ho108
      have hT_ := hT105
      rw [hk2_] at ho_ hcn_ hT_
      have hgt_ : goodTime now = true := t11
      have ho2_ : outX T now = (outXF T.m now, ((outXF T.m now).foldl remF (T, 0)).1) := by unfold outX; rw [if_pos hgt_]
      rw [ho2_]
      subst hcn_
      exact ⟨_, rfl, hC104.fr, hT_, own_base ho_ (newF_of hC104 2 rfl (tbAt_lt ht) (fun q_ hq_ => hC104.disj 0 2 rfl rfl (by decide) q_ hq_))⟩

end Go.Proofs.Ytimphmcoafapgaa
