/- Contracts of functions of the program, each proved by a walk through its code; conditions stand in the statements. -/
import Derived.Test.YtkafccgbagbncaaWhC10
import Derived.Test.YtkafccgbagbncaaWhK10
namespace Go.Proofs.Ytkafccgbagbncaa
set_option linter.unusedSimpArgs false
set_option linter.unusedVariables false
set_option linter.unusedSectionVars false
open Go Go.RowKit Go.Tw
set_option linter.unusedVariables false
set_option maxRecDepth 20000
theorem SortT_n (A : Option Addr) (n c : Nat) (D : List (Int × Int)) (w : World) (hn : D.length = n) (ho : w.ownsRow 0 67 2 (.slice A n c) n (D.flatMap tmC)) (hl : D.length < 4611686018427387904) : Calls Try.prog 27 #[.slice A n c, .func (.func 28) #[] #[]] w fun e w' => e = .returned (.tuple #[]) ∧ Fr w w' (blk (.slice A n c)) ∧ w'.ownsRow 0 67 2 (.slice A n c) n ((D.mergeSort leT).flatMap tmC) := by subst hn; exact SortT_ct A c D w ho hl
set_option maxHeartbeats 2000000 in
theorem Due_ct (F : List Nat) (p N : Nat) (m : List (Int × Int)) (hand : Int) (now : Int) (w : World) (ht : whAt w F p N m hand) (hh0 : 0 ≤ hand) (hh1 : hand ≤ 1099511627776) (hnb : now ≤ 9223372036854775807) (hhm : ∀ t ∈ m, hand ≤ t.2) (hml : m.length ≤ 1099511627776) : Calls Try.prog 12 #[.pointer (some ⟨p, 0, none⟩), .int .i64 now] w fun e w' => ∃ v F2, e = .returned v ∧ Fr w w' F ∧ whAt w' F2 p N (canL m (dueK m now)) (dueH hand now) ∧ (∀ x ∈ F2, x ∈ F ∨ w.heap.size ≤ x) ∧ w'.ownsRow w.heap.size 3 1 v (dueK m now).length ((dueK m now).flatMap (Go.Tw.encI .i64)) ∧ ∀ x ∈ blk v, x ∉ F2 := by
  refine enterD (n := 91) Try.func12 rfl rfl (Nat.le_of_ble_eq_true rfl) ?_
  intro Q0 hN hret hret'
  have ht0 := ht
  obtain ⟨g, mb, rows, es, cl, hp_, hg_, hmb_, hm_, hro_, hw_, rfl, hne_, hni_⟩ := ht
  have hC := Cx.openW hp_ hg_ hmb_ (rowsO_lt hro_) hne_ hni_
  obtain ⟨hN0_, hN1_⟩ := hw_.n
  refine WC.seq (fun K1 hK2 => ?_)
  refine WC.region ?_
  refine WL.runs 1 [(4, .slice none 0 0)] (fun _ => by kernel_rfl) ?_
  refine WL.done rfl ?_
  refine QX.then_normal (hK2 _ _ ?_)
  refine WC.seq (fun K3 hK4 => ?_)
  refine WC.seq (fun K5 hK6 => ?_)
  refine WC.region ?_
  refine WL.runs 7 [(19, .pointer (some ⟨p, 2, none⟩)), (18, .pointer (some ⟨p, 0, none⟩)), (17, .pointer (some ⟨p, 0, none⟩)), (16, .int .i64 now), (15, .bool false), (14, .bool false), (13, .pointer (some ⟨p, 0, none⟩))] (fun _ => by kernel_rfl) ?_
  refine WL.load 3 (.pointer (some ⟨p, 2, none⟩)) (.int .i64 hand) 20 (by kernel_rfl) (run_ld (hC.get 0 rfl) rfl) ?_
  refine WL.runs 2 [(22, .bool (decide (now < hand))), (21, .bool (decide (now < hand)))] (fun _ => by kernel_rfl) ?_
  refine WL.done rfl ?_
  refine QX.then_normal (hK6 _ _ ?_)
  refine WC.test_at 22 (decide (now < hand)) rfl (fun t7b => ?_) (fun t7b => ?_)
  · -- now < hand: true
    have t7 : now < hand := by have q_ := of_decide_eq_true t7b; omega
    refine WC.cond_true rfl ?_
    refine WC.seq (fun K8 hK9 => ?_)
    refine WC.region ?_
    refine WL.runs 1 [(4, .slice none 0 0)] (fun _ => by kernel_rfl) ?_
    refine WL.done rfl ?_
    refine QX.then_normal (hK9 _ _ ?_)
    refine WC.ret ?_
    refine QX.then_ret ?_
    refine (hret _ _ _ rfl ?_).1
    clear hN hret hret' hK9 hK6 hK4 hK2
    have hnn_ : dueL m now = [] := due_none (fun t_ ht_ => by have q_ := hhm t_ ht_; omega)
    have hkk_ : dueK m now = [] := by unfold dueK; rw [hnn_]; rfl
    rw [hkk_, show dueH hand now = hand from if_pos (by omega)]
    exact ⟨_, _, rfl, (Fr.refl w []).mono (fun _ h_ => nomatch h_), whAt_fr ht0 (Fr.refl w []) (by simp), fun _ h_ => .inl h_, own_nil _ _ _ _, (fun _ h_ => nomatch h_)⟩
  · -- now < hand: false
    have t7 : hand ≤ now := by have q_ := of_decide_eq_false t7b; omega
    refine WC.cond_false rfl ?_
    refine WC.skip ?_
    refine QX.then_normal (hK4 _ _ ?_)
    refine WC.seq (fun K10 hK11 => ?_)
    refine WC.region ?_
    refine WL.runs 1 [(5, .slice none 0 0)] (fun _ => by kernel_rfl) ?_
    refine WL.done rfl ?_
    refine QX.then_normal (hK11 _ _ ?_)
    refine WC.seq (fun K12 hK13 => ?_)
    refine WC.seq (fun K14 hK15 => ?_)
    refine WC.drawC hC [] (by kernel_rfl) (fun w16 hF17 hC18 hS19 => ?_)
    have hf20 := rowsO_fr hro_ hF17 (by simp)
    have hf21 := (Fr.refl w []).trans hF17 (by simp)
    refine WD.pure (NoPanic.then (NoPanic.then hN)) 0 23 (.int .i64 now) (by kernel_rfl) (fun _ => by kernel_rfl) hS19 ?_
    refine WD.pure (NoPanic.then (NoPanic.then hN)) 1 24 (.pointer (some ⟨p, 0, none⟩)) (by kernel_rfl) (fun _ => by kernel_rfl) hS19 ?_
    refine WD.pure (NoPanic.then (NoPanic.then hN)) 2 25 (.pointer (some ⟨p, 0, none⟩)) (by kernel_rfl) (fun _ => by kernel_rfl) hS19 ?_
    refine WD.pure (NoPanic.then (NoPanic.then hN)) 3 26 (.pointer (some ⟨p, 2, none⟩)) (by kernel_rfl) (fun _ => by kernel_rfl) hS19 ?_
    refine WD.pure (NoPanic.then (NoPanic.then hN)) 6 29 (.pointer (some ⟨p, 0, none⟩)) (by kernel_rfl) (fun _ => by kernel_rfl) hS19 ?_
    refine WD.pure (NoPanic.then (NoPanic.then hN)) 7 30 (.pointer (some ⟨p, 0, none⟩)) (by kernel_rfl) (fun _ => by kernel_rfl) hS19 ?_
    refine WD.pure (NoPanic.then (NoPanic.then hN)) 8 31 (.pointer (some ⟨p, 0, none⟩)) (by kernel_rfl) (fun _ => by kernel_rfl) hS19 ?_
    refine WD.pure (NoPanic.then (NoPanic.then hN)) 14 37 (.int .i64 0) (by kernel_rfl) (fun _ => by kernel_rfl) hS19 ?_
    refine WD.load (NoPanic.then (NoPanic.then hN)) 4 3 (.pointer (some ⟨p, 2, none⟩)) (.int .i64 hand) 27 (by kernel_rfl) (by kernel_rfl) (fun _ hS_ => run_ld (Fr.has hS_ (hC18.get 0 rfl) (by simp)) rfl) hS19 ?_
    refine WD.pure (NoPanic.then (NoPanic.then hN)) 5 28 (.int .i64 (IntKind.i64.wrap (now - hand))) (by kernel_rfl) (fun _ => by kernel_rfl) hS19 ?_
    refine WD.recast (show (.int .i64 (IntKind.i64.wrap (now - hand)) : Value) = .int .i64 (now - hand) from by rw [wrap_in_i64 (now - hand) (by omega) (by omega)]) ?_
    refine WD.load (NoPanic.then (NoPanic.then hN)) 9 59 (.pointer (some ⟨p, 0, none⟩)) (.slice (some ⟨g, 0, none⟩) N N) 32 (by kernel_rfl) (by kernel_rfl) (fun _ hS_ => run_ld (Fr.has hS_ (hC18.get 0 rfl) (by simp)) rfl) hS19 ?_
    refine WD.pure (NoPanic.then (NoPanic.then hN)) 10 33 (.int .i64 (N : Int)) (by kernel_rfl) (fun _ => by kernel_rfl) hS19 ?_
    refine WD.pure (NoPanic.then (NoPanic.then hN)) 11 34 (.int .i64 (IntKind.i64.wrap ((N : Int) - 1))) (by kernel_rfl) (fun _ => by kernel_rfl) hS19 ?_
    refine WD.recast (show (.int .i64 (IntKind.i64.wrap ((N : Int) - 1)) : Value) = .int .i64 ((N : Int) - 1) from by rw [wrap_in_i64 ((N : Int) - 1) (by omega) (by omega)]) ?_
    have hr22 : ∀ w_, Sem.run Try.prog (Builtin.min_ #[3, 3] 3 #[.int .i64 (now - hand), .int .i64 ((N : Int) - 1)]) w_ = .ok (.int .i64 (min (now - hand) ((N : Int) - 1))) w_ := fun w_ => run_minI
    refine WD.semP (NoPanic.then (NoPanic.then hN)) 12 (Builtin.min_ #[3, 3] 3 #[.int .i64 (now - hand), .int .i64 ((N : Int) - 1)]) 35 (.int .i64 (min (now - hand) ((N : Int) - 1))) (by kernel_rfl) (by kernel_rfl) (fun _ _ => hr22 _) hS19 ?_
    refine WD.pure (NoPanic.then (NoPanic.then hN)) 13 36 (.int .i64 (IntKind.i64.wrap ((min (now - hand) ((N : Int) - 1)) + 1))) (by kernel_rfl) (fun _ => by kernel_rfl) hS19 ?_
    obtain ⟨K, hK⟩ : ∃ K : Nat, (K : Int) = min (now - hand) ((N : Int) - 1) + 1 := ⟨(min (now - hand) ((N : Int) - 1) + 1).toNat, by omega⟩
    refine WD.recast (show (.int .i64 (IntKind.i64.wrap ((min (now - hand) ((N : Int) - 1)) + 1)) : Value) = .int .i64 (K : Int) from congrArg (Value.int .i64) (by rw [wrap_in_i64 _ (by omega) (by omega)]; exact hK.symm)) ?_
    refine WD.done (by kernel_rfl) ?_
    refine QX.then_normal (hK15 _ _ ?_)
    refine WC.block ?_
    have hC23 := hC18.addNil
    refine WC.loop (fun m_ E_ w_ => ∃ (i : Nat) (A5 : Option Addr) (n5 c5 : Nat), m_ = K - i ∧ E_ = [(0, .pointer (some ⟨p, 0, none⟩)), (1, .int .i64 now), (4, .slice none 0 0), (5, .slice A5 n5 c5), (36, .int .i64 (K : Int)), (37, .int .i64 (i : Int))] ∧ Cx w (p :: g :: mb :: rowsF rows) w_ [(p, .cells #[.slice (some ⟨g, 0, none⟩) N N, .map (some mb), .int .i64 hand] 62), (g, .cells (rows.flatMap encR).toArray 65 (0, 0)), (mb, .map es cl)] [rowsF rows, blk (.slice A5 n5 c5)] ∧ rowsO w_ rows ∧ World.ownsRow w_ 0 67 2 (.slice A5 n5 c5) n5 ((scanL rows N hand now i).flatMap tmC) ∧ (i ≤ K)) ⟨_, _, ⟨0, none, 0, 0, rfl, rfl, hC23, hf20, own_nil _ _ _ _, Nat.zero_le _⟩, sub_of ⟨rfl, rfl, rfl, rfl, rfl, rfl, trivial⟩⟩ (fun m27 E_ w28 K24 hK25 hI26 => ?_)
    obtain ⟨i, A5, n5, c5, rfl, rfl, hC29, rows_m27, hdue, hi⟩ := hI26
    have hcn_ := own_count tmC_len (by decide) hdue
    have hKN_ : K ≤ N := by omega
    have hsl_ := scan_len (now := now) hw_ hh0 (show i ≤ N by omega)
    refine WC.seq (fun K30 hK31 => ?_)
    refine WC.region ?_
    refine WL.runs 1 [(38, .bool (decide ((i : Int) < (K : Int))))] (fun _ => by kernel_rfl) ?_
    refine WL.done rfl ?_
    refine QX.then_normal (hK31 _ _ ?_)
    refine WC.seq (fun K32 hK33 => ?_)
    refine WC.test_at 38 (decide ((i : Int) < (K : Int))) rfl (fun t34b => ?_) (fun t34b => ?_)
    · -- (i : Int) < (K : Int): true
      have t34 : (i : Int) < (K : Int) := by have q_ := of_decide_eq_true t34b; omega
      refine WC.cond_true rfl ?_
      refine WC.skip ?_
      refine QX.then_normal (hK33 _ _ ?_)
      refine WC.seq (fun K35 hK36 => ?_)
      refine WC.block ?_
      refine WC.seq (fun K37 hK38 => ?_)
      refine WC.region ?_
      refine WL.runs 2 [(6, .int .i64 (i : Int)), (39, .int .i64 (i : Int))] (fun _ => by kernel_rfl) ?_
      refine WL.done rfl ?_
      refine QX.then_normal (hK38 _ _ ?_)
      refine WC.seq (fun K39 hK40 => ?_)
      refine WC.region ?_
      refine WL.runs 4 [(43, .pointer (some ⟨p, 2, none⟩)), (42, .pointer (some ⟨p, 0, none⟩)), (41, .pointer (some ⟨p, 0, none⟩)), (40, .pointer (some ⟨p, 0, none⟩))] (fun _ => by kernel_rfl) ?_
      refine WL.load 3 (.pointer (some ⟨p, 2, none⟩)) (.int .i64 hand) 44 (by kernel_rfl) (run_ld (hC29.get 0 rfl) rfl) ?_
      refine WL.runs 2 [(46, .int .i64 (IntKind.i64.wrap (hand + (i : Int)))), (45, .int .i64 (i : Int))] (fun _ => by kernel_rfl) ?_
      refine WL.recast (show (.int .i64 (IntKind.i64.wrap (hand + (i : Int))) : Value) = .int .i64 (hand + (i : Int)) from by rw [wrap_in_i64 (hand + (i : Int)) (by omega) (by omega)]) ?_
      refine WL.call rfl rfl rfl rfl rfl (by kernel_rfl) (slot_ct p g N (hand + (i : Int)) (.map (some mb)) (.int .i64 hand) w28 (hC29.get 0 rfl) hw_.n.1 hw_.n.2 (by omega)) ?_
      rintro _ w42 ⟨rfl, hF41⟩
      refine ⟨_, rfl, ?_⟩
      have hC43 := hC29.call hF41
      have hf44 := rowsO_fr rows_m27 hF41 (by simp)
      have ho45 := own_fr hdue hF41 (by simp)
      obtain ⟨r46, hr47⟩ := get_some (xs := rows) (i := (slotN N (hand + (i : Int)))) (slot_lt hw_ _)
      refine WL.runs 1 [(7, .pointer (some ⟨g, (slotN N (hand + (i : Int))), none⟩))] (fun _ => by kernel_rfl) ?_
      refine WL.done rfl ?_
      refine QX.then_normal (hK40 _ _ ?_)
      refine WC.seq (fun K48 hK49 => ?_)
      refine WC.region ?_
      refine WL.runs 2 [(49, .pointer (some ⟨g, (slotN N (hand + (i : Int))), none⟩)), (48, .pointer (some ⟨g, (slotN N (hand + (i : Int))), none⟩))] (fun _ => by kernel_rfl) ?_
      refine WL.load 65 (.pointer (some ⟨g, (slotN N (hand + (i : Int))), none⟩)) (.slice r46.A r46.ts.length r46.c) 50 (by kernel_rfl) (run_load1 rfl (by simpa [Nat.add_assoc] using Rd.cell (Rd.blk (hC43.get 1 rfl) encR_len rfl) rfl hr47 0 _ rfl)) ?_
      have hrl_ := own_max (rowsO_get hf44 hr47)
      have hrm_ := wOk.row_len hw_ hr47
      refine WL.runs 2 [(52, .int .i64 0), (51, .int .i64 (r46.ts.length : Int))] (fun _ => by kernel_rfl) ?_
      refine WL.done rfl ?_
      refine QX.then_normal (hK49 _ _ ?_)
      refine WC.block ?_
      refine WC.loop (fun m_ E_ w_ => ∃ (j : Nat) (A6 : Option Addr) (n6 c6 : Nat), m_ = r46.ts.length - j ∧ E_ = [(0, .pointer (some ⟨p, 0, none⟩)), (1, .int .i64 now), (4, .slice none 0 0), (5, .slice A6 n6 c6), (36, .int .i64 (K : Int)), (37, .int .i64 (i : Int)), (50, .slice r46.A r46.ts.length r46.c), (51, .int .i64 (r46.ts.length : Int)), (52, .int .i64 (j : Int))] ∧ Cx w (p :: g :: mb :: rowsF rows) w_ [(p, .cells #[.slice (some ⟨g, 0, none⟩) N N, .map (some mb), .int .i64 hand] 62), (g, .cells (rows.flatMap encR).toArray 65 (0, 0)), (mb, .map es cl)] [rowsF rows, blk (.slice A6 n6 c6)] ∧ rowsO w_ rows ∧ World.ownsRow w_ 0 67 2 (.slice r46.A r46.ts.length r46.c) r46.ts.length (r46.ts.flatMap tmC) ∧ World.ownsRow w_ 0 67 2 (.slice A6 n6 c6) n6 ((scanL rows N hand now i ++ inT now (r46.ts.take j)).flatMap tmC) ∧ (j ≤ r46.ts.length)) ⟨_, _, ⟨0, A5, n5, c5, rfl, rfl, hC43, hf44, (rowsO_get hf44 hr47), (by simpa [inT] using ho45), Nat.zero_le _⟩, sub_of ⟨rfl, rfl, rfl, rfl, rfl, rfl, rfl, rfl, rfl, trivial⟩⟩ (fun m53 E_ w54 K50 hK51 hI52 => ?_)
      obtain ⟨j, A6, n6, c6, rfl, rfl, hC55, rows_m53, row8_m53, hdue6, hj⟩ := hI52
      have hcn6_ := own_count tmC_len (by decide) hdue6
      rw [List.length_append] at hcn6_
      have hil_ := inT_len now (r46.ts.take j)
      rw [List.length_take] at hil_
      refine WC.seq (fun K56 hK57 => ?_)
      refine WC.region ?_
      refine WL.runs 1 [(53, .bool (decide ((j : Int) < (r46.ts.length : Int))))] (fun _ => by kernel_rfl) ?_
      refine WL.done rfl ?_
      refine QX.then_normal (hK57 _ _ ?_)
      refine WC.seq (fun K58 hK59 => ?_)
      refine WC.test_at 53 (decide ((j : Int) < (r46.ts.length : Int))) rfl (fun t60b => ?_) (fun t60b => ?_)
      · -- (j : Int) < (r46.ts.length : Int): true
        have t60 : (j : Int) < (r46.ts.length : Int) := by have q_ := of_decide_eq_true t60b; omega
        refine WC.cond_true rfl ?_
        refine WC.skip ?_
        refine QX.then_normal (hK59 _ _ ?_)
        refine WC.seq (fun K61 hK62 => ?_)
        refine WC.block ?_
        refine WC.seq (fun K63 hK64 => ?_)
        refine WC.region ?_
        have hn69 := own_count tmC_len (by decide) row8_m53
        obtain ⟨e65, he66⟩ := get_some (xs := r46.ts) (i := j) (by omega)
        obtain ⟨b67, hA68⟩ := own_addr (by decide) tmC_len row8_m53 he66
        refine WL.index r46.A r46.ts.length r46.c 54 .i64 (j : Int) b67 0 j 2 (by kernel_rfl) hA68 (by omega) (by omega) (j * 2) (by first | (simp; done) | omega) ?_
        refine WL.load 67 (.pointer (some ⟨b67, j * 2, none⟩)) (.agg #[.int .i64 e65.1, .int .i64 e65.2]) 55 (by kernel_rfl) (run_rdN (l := [.int .i64 e65.1, .int .i64 e65.2]) rfl rfl (fun j u hu => by have hq_ := Rd.cell (own_rd row8_m53 tmC_len (by decide)) hA68 he66 j u hu; simpa [Nat.add_assoc] using hq_)) ?_
        refine WL.newM hC55 (fun b => .pointer (some ⟨b, 0, none⟩)) (.cells #[.int .i64 0, .int .i64 0] 67) 9 (fun _ => by kernel_rfl) (fun g70 w71 hb74 hF72 hC73 => ?_)
        have hf75 := rowsO_fr rows_m53 hF72 (by simp)
        have ho76 := own_fr row8_m53 hF72 (by simp)
        have ho77 := own_fr hdue6 hF72 (by simp)
        refine WL.storeM (c' := #[.int .i64 e65.1, .int .i64 e65.2]) hC73 3 67 g70 0 (.agg #[.int .i64 e65.1, .int .i64 e65.2]) (by kernel_rfl) rfl (by kernel_rfl) (fun w78 hF80 hC81 => ?_)
        have hf82 := rowsO_fr hf75 hF80 (hC73.apartM 0 3 rfl rfl)
        have ho83 := own_fr ho76 hF80 (fun x_ hx_ => (hC73.apartM 0 3 rfl rfl) x_ (mem_rowsF hr47 hx_))
        have ho84 := own_fr ho77 hF80 (hC73.apartM 1 3 rfl rfl)
        refine WL.done rfl ?_
        refine QX.then_normal (hK64 _ _ ?_)
        refine WC.seq (fun K85 hK86 => ?_)
        refine WC.region ?_
        refine WL.runs 1 [(56, .pointer (some ⟨g70, 1, none⟩))] (fun _ => by kernel_rfl) ?_
        refine WL.load 3 (.pointer (some ⟨g70, 1, none⟩)) (.int .i64 e65.2) 57 (by kernel_rfl) (run_ld (hC81.get 3 rfl) rfl) ?_
        refine WL.runs 2 [(59, .bool (decide (e65.2 ≤ now))), (58, .int .i64 now)] (fun _ => by kernel_rfl) ?_
        refine WL.done rfl ?_
        refine QX.then_normal (hK86 _ _ ?_)
        refine WC.test_at 59 (decide (e65.2 ≤ now)) rfl (fun t87b => ?_) (fun t87b => ?_)
        · -- e65.2 ≤ now: true
          have t87 : e65.2 ≤ now := by have q_ := of_decide_eq_true t87b; omega
          refine WC.cond_true rfl ?_
          refine WC.region ?_
          refine WL.runs 1 [(60, .slice A6 n6 c6)] (fun _ => by kernel_rfl) ?_
          refine WL.load 67 (.pointer (some ⟨g70, 0, none⟩)) (.agg #[.int .i64 e65.1, .int .i64 e65.2]) 61 (by kernel_rfl) (run_ld (hC81.get 3 rfl) rfl) ?_
          refine WL.newM hC81 (fun b => .slice (some ⟨b, 0, none⟩) 1 1) (.cells #[.int .i64 e65.1, .int .i64 e65.2] 67) 62 (fun _ => by kernel_rfl) (fun g88 w89 hb92 hF90 hC91 => ?_)
          have hf93 := rowsO_fr hf82 hF90 (by simp)
          have ho94 := own_fr ho83 hF90 (by simp)
          have ho95 := own_fr ho84 hF90 (by simp)
          obtain ⟨v96, w97, hr98, ho99, hF100, hC101, hnil102, hsub103⟩ := app_run Try.prog hC91 1 (v := .slice A6 n6 c6) rfl 65 65 67 2 16 n6 1 1 (some ⟨g88, 0, none⟩) rfl ho95 [.int .i64 e65.1, .int .i64 e65.2] rfl (srcOk.blk 1 (hC91.get 4 rfl)) rfl (by simp only [maxLen]; omega) (by omega)
          have ho107 := own_snoc (enc := tmC) (ys := (scanL rows N hand now i ++ inT now (r46.ts.take j))) e65 ho99
          obtain ⟨A104, c105, rfl, hle106⟩ := own_form ho107
          refine WL.sem (Builtin.append_ #[65, 65] 65 #[.slice A6 n6 c6, .slice (some ⟨g88, 0, none⟩) 1 1]) 63 (.slice A104 (n6 + 1) c105) (by kernel_rfl) hr98 ?_
          have hf108 := rowsO_fr hf93 hF100 (hC91.disj 0 1 rfl rfl (by decide))
          have ho109 := own_fr ho94 hF100 (fun x_ hx_ => (hC91.disj 0 1 rfl rfl (by decide)) x_ (mem_rowsF hr47 hx_))
          refine WL.runs 1 [(5, .slice A104 (n6 + 1) c105)] (fun _ => by kernel_rfl) ?_
          refine WL.done rfl ?_
          refine QX.block_normal ?_
          refine QX.then_normal (hK62 _ _ ?_)
          refine WC.region ?_
          refine WL.runs 1 [(64, .int .i64 (IntKind.i64.wrap ((j : Int) + 1)))] (fun _ => by kernel_rfl) ?_
          refine WL.recast (show (.int .i64 (IntKind.i64.wrap ((j : Int) + 1)) : Value) = .int .i64 ((j : Int) + 1) from by rw [wrap_in_i64 ((j : Int) + 1) (by omega) (by omega)]) ?_
          refine WL.runs 1 [(52, .int .i64 ((j : Int) + 1))] (fun _ => by kernel_rfl) ?_
          refine WL.done rfl ?_
          refine QX.then_normal ?_
          have hC110 := hC101.pick [0, 1, 2] [0, 1] rfl rfl
          refine fun a_ ha_ => hK51 _ _ _ ?_ ⟨j + 1, A104, n6 + 1, c105, rfl, rfl, hC110, hf108, ho109, by rw [inT_snoc he66, if_pos (by simpa using t87b), ← List.append_assoc]; exact ho107, by omega⟩ a_ (ha_.weaken (sub_of ⟨rfl, rfl, rfl, rfl, rfl, rfl, rfl, rfl, rfl, trivial⟩))
          omega
        · -- e65.2 ≤ now: false
          have t87 : now < e65.2 := by have q_ := of_decide_eq_false t87b; omega
          refine WC.cond_false rfl ?_
          refine WC.skip ?_
          refine QX.block_normal ?_
          refine QX.then_normal (hK62 _ _ ?_)
          refine WC.region ?_
          refine WL.runs 1 [(64, .int .i64 (IntKind.i64.wrap ((j : Int) + 1)))] (fun _ => by kernel_rfl) ?_
          refine WL.recast (show (.int .i64 (IntKind.i64.wrap ((j : Int) + 1)) : Value) = .int .i64 ((j : Int) + 1) from by rw [wrap_in_i64 ((j : Int) + 1) (by omega) (by omega)]) ?_
          refine WL.runs 1 [(52, .int .i64 ((j : Int) + 1))] (fun _ => by kernel_rfl) ?_
          refine WL.done rfl ?_
          refine QX.then_normal ?_
          have hC111 := hC81.pick [0, 1, 2] [0, 1] rfl rfl
          refine fun a_ ha_ => hK51 _ _ _ ?_ ⟨j + 1, A6, n6, c6, rfl, rfl, hC111, hf82, ho83, by rw [inT_snoc he66, if_neg (by simpa using t87b), List.append_nil]; exact ho84, by omega⟩ a_ (ha_.weaken (sub_of ⟨rfl, rfl, rfl, rfl, rfl, rfl, rfl, rfl, rfl, trivial⟩))
          omega
      · -- (j : Int) < (r46.ts.length : Int): false
        have t60 : (r46.ts.length : Int) ≤ (j : Int) := by have q_ := of_decide_eq_false t60b; omega
        refine WC.cond_false rfl ?_
        refine WC.exit ?_
        refine QX.then_exit ?_
        refine QX.then_exit ?_
        refine QX.block_hit ?_
        refine QX.block_normal ?_
        refine QX.then_normal (hK36 _ _ ?_)
        refine WC.region ?_
        refine WL.runs 1 [(65, .int .i64 (IntKind.i64.wrap ((i : Int) + 1)))] (fun _ => by kernel_rfl) ?_
        refine WL.recast (show (.int .i64 (IntKind.i64.wrap ((i : Int) + 1)) : Value) = .int .i64 ((i : Int) + 1) from by rw [wrap_in_i64 ((i : Int) + 1) (by omega) (by omega)]) ?_
        refine WL.runs 1 [(37, .int .i64 ((i : Int) + 1))] (fun _ => by kernel_rfl) ?_
        refine WL.done rfl ?_
        refine QX.then_normal ?_
        have hC112 := hC55.pick [0, 1, 2] [0, 1] rfl rfl
        refine fun a_ ha_ => hK25 _ _ _ ?_ ⟨i + 1, A6, n6, c6, rfl, rfl, hC112, rows_m53, by rw [scan_step hr47]; have q_ := hdue6; rw [take_allT (by omega)] at q_; exact q_, by omega⟩ a_ (ha_.weaken (sub_of ⟨rfl, rfl, rfl, rfl, rfl, rfl, trivial⟩))
        omega
    · -- (i : Int) < (K : Int): false
      have t34 : (K : Int) ≤ (i : Int) := by have q_ := of_decide_eq_false t34b; omega
      refine WC.cond_false rfl ?_
      refine WC.exit ?_
      refine QX.then_exit ?_
      refine QX.then_exit ?_
      refine QX.block_hit ?_
      refine QX.then_normal (hK13 _ _ ?_)
      refine WC.seq (fun K113 hK114 => ?_)
      refine WC.region ?_
      refine WL.runs 2 [(67, .int .i64 now), (66, .pointer (some ⟨p, 0, none⟩))] (fun _ => by kernel_rfl) ?_
      have hr115 : ∀ w_, Sem.run Try.prog (Builtin.min_ #[3, 3] 3 #[.int .i64 now, .int .i64 1099511627776]) w_ = .ok (.int .i64 (min now 1099511627776)) w_ := fun w_ => run_minI
      refine WL.sem (Builtin.min_ #[3, 3] 3 #[.int .i64 now, .int .i64 1099511627776]) 68 (.int .i64 (min now 1099511627776)) (by kernel_rfl) (hr115 _) ?_
      refine WL.runs 2 [(70, .pointer (some ⟨p, 2, none⟩)), (69, .pointer (some ⟨p, 0, none⟩))] (fun _ => by kernel_rfl) ?_
      refine WL.storeM (c' := #[.slice (some ⟨g, 0, none⟩) N N, .map (some mb), .int .i64 (min now 1099511627776)]) hC29 0 3 p 2 (.int .i64 (min now 1099511627776)) (by kernel_rfl) rfl (by kernel_rfl) (fun w116 hF118 hC119 => ?_)
      have hf120 := rowsO_fr rows_m27 hF118 (hC29.apartM 0 0 rfl rfl)
      have ho121 := own_fr hdue hF118 (hC29.apartM 1 0 rfl rfl)
      refine WL.done rfl ?_
      refine QX.then_normal (hK114 _ _ ?_)
      refine WC.seq (fun K122 hK123 => ?_)
      refine WC.region ?_
      refine WL.runs 1 [(71, .slice A5 n5 c5)] (fun _ => by kernel_rfl) ?_
      have hiK_ : i = K := by omega
      subst hiK_
      have hD129 := sort_due (now := now) hw_.keys (scan_nodup hw_ hh0 hKN_) (scan_mem hw_ hh0 hhm (by omega) hK)
      refine WL.call rfl rfl rfl rfl rfl (by kernel_rfl) (SortT_n A5 n5 c5 (scanL rows N hand now i) w116 hcn_ ho121 (by omega)) ?_
      rintro _ w125 ⟨rfl, hF124, ho126⟩
      have ho128 := ho126
      rw [hD129] at ho128
      have hC127 := hC119.callF 1 rfl hF124 (fun _ hx_ => .inl hx_) (own_lt ho128)
      refine ⟨_, rfl, ?_⟩
      have hf130 := rowsO_fr hf120 hF124 (hC119.disj 0 1 rfl rfl (by decide))
      refine WL.done rfl ?_
      refine QX.then_normal (hK123 _ _ ?_)
      refine WC.seq (fun K131 hK132 => ?_)
      refine WC.region ?_
      refine WL.runs 1 [(10, .slice none 0 0)] (fun _ => by kernel_rfl) ?_
      refine WL.done rfl ?_
      refine QX.then_normal (hK132 _ _ ?_)
      refine WC.seq (fun K133 hK134 => ?_)
      refine WC.seq (fun K135 hK136 => ?_)
      refine WC.region ?_
      refine WL.runs 3 [(75, .int .i64 0), (74, .int .i64 (n5 : Int)), (73, .slice A5 n5 c5)] (fun _ => by kernel_rfl) ?_
      refine WL.done rfl ?_
      refine QX.then_normal (hK136 _ _ ?_)
      refine WC.block ?_
      have hdn_ := own_count tmC_len (by decide) ho128
      have hdl_ := dueL_len m now
      have hwh137 : whAt w125 (p :: g :: mb :: rowsF rows) p N m (min now 1099511627776) := wh_mk hC127 0 0 rfl rfl rfl rfl hm_ hf130 hw_
      have hC138 := hC127.toF3 0 0 rfl rfl rfl rfl
      have hC139 := hC138.addNil
      refine WC.loop (fun m_ E_ w_ => ∃ (i : Nat) (F5 : List Nat) (A7 : Option Addr) (n7 c7 : Nat), m_ = (dueL m now).length - i ∧ E_ = [(0, .pointer (some ⟨p, 0, none⟩)), (1, .int .i64 now), (4, .slice none 0 0), (10, .slice A7 n7 c7), (73, .slice A5 n5 c5), (74, .int .i64 (n5 : Int)), (75, .int .i64 (i : Int))] ∧ Cx w (p :: g :: mb :: rowsF rows) w_ [] [F5, blk (.slice A5 n5 c5), blk (.slice A7 n7 c7)] ∧ World.ownsRow w_ 0 67 2 (.slice A5 n5 c5) n5 ((dueL m now).flatMap tmC) ∧ whAt w_ F5 p N (canL m (((dueL m now).take i).map (·.1))) (min now 1099511627776) ∧ World.ownsRow w_ 0 3 1 (.slice A7 n7 c7) n7 ((((dueL m now).take i).map (·.1)).flatMap (Go.Tw.encI .i64)) ∧ (i ≤ (dueL m now).length ∧ ∀ x_ ∈ blk (.slice A7 n7 c7), w.heap.size ≤ x_)) ⟨_, _, ⟨0, (p :: g :: mb :: rowsF rows), none, 0, 0, rfl, rfl, hC139, ho128, hwh137, own_nil _ _ _ _, Nat.zero_le _, (fun _ h_ => nomatch h_)⟩, sub_of ⟨rfl, rfl, rfl, rfl, rfl, rfl, rfl, trivial⟩⟩ (fun m143 E_ w144 K140 hK141 hI142 => ?_)
      obtain ⟨i, F5, A7, n7, c7, rfl, rfl, hC145, due_m143, hwh5, hout, hi, hfo⟩ := hI142
      have hcn7_ := own_count (Go.Tw.encI_len _) (by decide) hout
      rw [List.length_map, List.length_take] at hcn7_
      refine WC.seq (fun K146 hK147 => ?_)
      refine WC.region ?_
      refine WL.runs 1 [(76, .bool (decide ((i : Int) < (n5 : Int))))] (fun _ => by kernel_rfl) ?_
      refine WL.done rfl ?_
      refine QX.then_normal (hK147 _ _ ?_)
      refine WC.seq (fun K148 hK149 => ?_)
      refine WC.test_at 76 (decide ((i : Int) < (n5 : Int))) rfl (fun t150b => ?_) (fun t150b => ?_)
      · -- (i : Int) < (n5 : Int): true
        have t150 : (i : Int) < (n5 : Int) := by have q_ := of_decide_eq_true t150b; omega
        refine WC.cond_true rfl ?_
        refine WC.skip ?_
        refine QX.then_normal (hK149 _ _ ?_)
        refine WC.seq (fun K151 hK152 => ?_)
        refine WC.block ?_
        refine WC.seq (fun K153 hK154 => ?_)
        refine WC.region ?_
        have hn159 := own_count tmC_len (by decide) due_m143
        obtain ⟨e155, he156⟩ := get_some (xs := (dueL m now)) (i := i) (by omega)
        obtain ⟨b157, hA158⟩ := own_addr (by decide) tmC_len due_m143 he156
        refine WL.index A5 n5 c5 77 .i64 (i : Int) b157 0 i 2 (by kernel_rfl) hA158 (by omega) (by omega) (i * 2) (by first | (simp; done) | omega) ?_
        refine WL.load 67 (.pointer (some ⟨b157, i * 2, none⟩)) (.agg #[.int .i64 e155.1, .int .i64 e155.2]) 78 (by kernel_rfl) (run_rdN (l := [.int .i64 e155.1, .int .i64 e155.2]) rfl rfl (fun j u hu => by have hq_ := Rd.cell (own_rd due_m143 tmC_len (by decide)) hA158 he156 j u hu; simpa [Nat.add_assoc] using hq_)) ?_
        refine WL.newM hC145 (fun b => .pointer (some ⟨b, 0, none⟩)) (.cells #[.int .i64 0, .int .i64 0] 67) 12 (fun _ => by kernel_rfl) (fun g160 w161 hb164 hF162 hC163 => ?_)
        have ho165 := own_fr due_m143 hF162 (by simp)
        have hf166 := whAt_fr hwh5 hF162 (by simp)
        have ho167 := own_fr hout hF162 (by simp)
        refine WL.storeM (c' := #[.int .i64 e155.1, .int .i64 e155.2]) hC163 0 67 g160 0 (.agg #[.int .i64 e155.1, .int .i64 e155.2]) (by kernel_rfl) rfl (by kernel_rfl) (fun w168 hF170 hC171 => ?_)
        have ho172 := own_fr ho165 hF170 (hC163.apartM 1 0 rfl rfl)
        have hf173 := whAt_fr hf166 hF170 (hC163.apartM 0 0 rfl rfl)
        have ho174 := own_fr ho167 hF170 (hC163.apartM 2 0 rfl rfl)
        refine WL.done rfl ?_
        refine QX.then_normal (hK154 _ _ ?_)
        refine WC.seq (fun K175 hK176 => ?_)
        refine WC.region ?_
        refine WL.runs 2 [(80, .pointer (some ⟨g160, 0, none⟩)), (79, .pointer (some ⟨p, 0, none⟩))] (fun _ => by kernel_rfl) ?_
        refine WL.load 3 (.pointer (some ⟨g160, 0, none⟩)) (.int .i64 e155.1) 81 (by kernel_rfl) (run_ld (hC171.get 0 rfl) rfl) ?_
        refine WL.newM hC171 (fun b => .slice (some ⟨b, 0, none⟩) 1 1) (.cells #[.int .i64 e155.1] 3) 82 (fun _ => by kernel_rfl) (fun g177 w178 hb181 hF179 hC180 => ?_)
        have ho182 := own_fr ho172 hF179 (by simp)
        have hf183 := whAt_fr hf173 hF179 (by simp)
        have ho184 := own_fr ho174 hF179 (by simp)
        refine WL.call rfl rfl rfl rfl rfl (by kernel_rfl) (Cancel_n F5 p N (canL m (((dueL m now).take i).map (·.1))) (min now 1099511627776) (some ⟨g177, 0, none⟩) 1 1 [e155.1] w178 hf183 (Rd.blk (hC180.get 1 rfl) (Go.Tw.encI_len _) rfl) rfl (by simp) (fun _ _ e_ _ => by cases e_; exact hC180.notin 0 1 rfl rfl)) ?_
        rintro _ w186 ⟨F189, rfl, hF185, hT188, hsub190⟩
        have hT188' : whAt w186 F189 p N (delL (canL m (((dueL m now).take i).map (·.1))) e155.1) (min now 1099511627776) := hT188
        have hC187 := hC180.callF 0 rfl hF185 hsub190 (whAt_lt hT188')
        refine ⟨_, rfl, ?_⟩
        have ho191 := own_fr ho182 hF185 (hC180.disj 1 0 rfl rfl (by decide))
        have ho192 := own_fr ho184 hF185 (hC180.disj 2 0 rfl rfl (by decide))
        refine WL.done rfl ?_
        refine QX.then_normal (hK176 _ _ ?_)
        refine WC.region ?_
        refine WL.runs 2 [(85, .pointer (some ⟨g160, 0, none⟩)), (84, .slice A7 n7 c7)] (fun _ => by kernel_rfl) ?_
        refine WL.load 3 (.pointer (some ⟨g160, 0, none⟩)) (.int .i64 e155.1) 86 (by kernel_rfl) (run_ld (hC187.get 0 rfl) rfl) ?_
        refine WL.newM hC187 (fun b => .slice (some ⟨b, 0, none⟩) 1 1) (.cells #[.int .i64 e155.1] 3) 87 (fun _ => by kernel_rfl) (fun g193 w194 hb197 hF195 hC196 => ?_)
        have ho198 := own_fr ho191 hF195 (by simp)
        have hf199 := whAt_fr hT188' hF195 (by simp)
        have ho200 := own_fr ho192 hF195 (by simp)
        obtain ⟨v201, w202, hr203, ho204, hF205, hC206, hnil207, hsub208⟩ := app_run Try.prog hC196 2 (v := .slice A7 n7 c7) rfl 22 22 3 1 8 n7 1 1 (some ⟨g193, 0, none⟩) rfl ho200 [.int .i64 e155.1] rfl (srcOk.blk 1 (hC196.get 2 rfl)) rfl (by simp only [maxLen]; omega) (by omega)
        have ho212 := own_snoc (enc := (Go.Tw.encI .i64)) (ys := (((dueL m now).take i).map (·.1))) e155.1 ho204
        obtain ⟨A209, c210, rfl, hle211⟩ := own_form ho212
        refine WL.sem (Builtin.append_ #[22, 22] 22 #[.slice A7 n7 c7, .slice (some ⟨g193, 0, none⟩) 1 1]) 88 (.slice A209 (n7 + 1) c210) (by kernel_rfl) hr203 ?_
        have ho213 := own_fr ho198 hF205 (hC196.disj 1 2 rfl rfl (by decide))
        have hf214 := whAt_fr hf199 hF205 (hC196.disj 0 2 rfl rfl (by decide))
        refine WL.runs 1 [(10, .slice A209 (n7 + 1) c210)] (fun _ => by kernel_rfl) ?_
        refine WL.done rfl ?_
        refine QX.block_normal ?_
        refine QX.then_normal (hK152 _ _ ?_)
        refine WC.region ?_
        refine WL.runs 1 [(89, .int .i64 (IntKind.i64.wrap ((i : Int) + 1)))] (fun _ => by kernel_rfl) ?_
        refine WL.recast (show (.int .i64 (IntKind.i64.wrap ((i : Int) + 1)) : Value) = .int .i64 ((i : Int) + 1) from by rw [wrap_in_i64 ((i : Int) + 1) (by omega) (by omega)]) ?_
        refine WL.runs 1 [(75, .int .i64 ((i : Int) + 1))] (fun _ => by kernel_rfl) ?_
        refine WL.done rfl ?_
        refine QX.then_normal ?_
        have hC215 := hC206.pick [] [0, 1, 2] rfl rfl
        refine fun a_ ha_ => hK141 _ _ _ ?_ ⟨i + 1, F189, A209, n7 + 1, c210, rfl, rfl, hC215, ho213, by rw [can_map he156]; exact hf214, by rw [key_map he156]; exact ho212, by omega, fun x_ hx_ => (hsub208 x_ hx_).elim (hfo x_) (fun h_ => Nat.le_trans hC196.fr.size h_)⟩ a_ (ha_.weaken (sub_of ⟨rfl, rfl, rfl, rfl, rfl, rfl, rfl, trivial⟩))
        omega
      · -- (i : Int) < (n5 : Int): false
        have t150 : (n5 : Int) ≤ (i : Int) := by have q_ := of_decide_eq_false t150b; omega
        refine WC.cond_false rfl ?_
        refine WC.exit ?_
        refine QX.then_exit ?_
        refine QX.then_exit ?_
        refine QX.block_hit ?_
        refine QX.then_normal (hK134 _ _ ?_)
        refine WC.seq (fun K216 hK217 => ?_)
        refine WC.region ?_
        refine WL.runs 2 [(4, .slice A7 n7 c7), (90, .slice A7 n7 c7)] (fun _ => by kernel_rfl) ?_
        refine WL.done rfl ?_
        refine QX.then_normal (hK217 _ _ ?_)
        refine WC.ret ?_
        refine (hret _ _ _ rfl ?_).1
        clear hN hret hret' hK217 hK149 hK147 hK136 hK134 hK132 hK123 hK114 hK33 hK31 hK15 hK13 hK11 hK6 hK4 hK2
        have hie_ : i = (dueL m now).length := by omega
        subst hie_
        rw [List.take_length] at hwh5 hout
        have hn7_ : n7 = (dueK m now).length := by unfold dueK; rw [List.length_map]; omega
        subst hn7_
        exact ⟨_, F5, rfl, hC145.fr, by rw [show dueH hand now = min now 1099511627776 from if_neg (by omega)]; exact hwh5, fun x_ hx_ => hC145.ownF F5 (by simp) x_ hx_, own_base hout hfo, hC145.disj 2 0 rfl rfl (by decide)⟩

theorem Due_nil (now : Int) (w : World) : Calls Try.prog 12 #[.pointer none, .int .i64 now] w fun e w' => e = .returned (.slice none 0 0) ∧ Fr w w' [] := by
  refine enterD (n := 91) Try.func12 rfl rfl (Nat.le_of_ble_eq_true rfl) ?_
  intro Q0 hN hret hret'
  have hC := Cx.start w
  refine WC.seq (fun K1 hK2 => ?_)
  refine WC.region ?_
  refine WL.runs 1 [(4, .slice none 0 0)] (fun _ => by kernel_rfl) ?_
  refine WL.done rfl ?_
  refine QX.then_normal (hK2 _ _ ?_)
  refine WC.seq (fun K3 hK4 => ?_)
  refine WC.seq (fun K5 hK6 => ?_)
  refine WC.region ?_
  refine WL.runs 10 [(22, .bool true), (21, undef), (20, undef), (19, undef), (18, undef), (17, undef), (16, undef), (15, .bool true), (14, .bool true), (13, .pointer none)] (fun _ => by kernel_rfl) ?_
  refine WL.done rfl ?_
  refine QX.then_normal (hK6 _ _ ?_)
  refine WC.cond_true rfl ?_
  refine WC.seq (fun K7 hK8 => ?_)
  refine WC.region ?_
  refine WL.runs 1 [(4, .slice none 0 0)] (fun _ => by kernel_rfl) ?_
  refine WL.done rfl ?_
  refine QX.then_normal (hK8 _ _ ?_)
  refine WC.ret ?_
  refine QX.then_ret ?_
  refine (hret _ _ _ rfl ?_).1
  clear hN hret hret' hK8 hK6 hK4 hK2
  exact ⟨rfl, hC.fr⟩

end Go.Proofs.Ytkafccgbagbncaa
