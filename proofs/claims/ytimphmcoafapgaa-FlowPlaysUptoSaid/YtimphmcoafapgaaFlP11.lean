/- Contracts of functions of the program, each proved by a walk through its code; conditions stand in the statements. -/
import Derived.Test.YtimphmcoafapgaaFlO11
namespace Go.Proofs.Ytimphmcoafapgaa
set_option linter.unusedSimpArgs false
set_option linter.unusedVariables false
set_option linter.unusedSectionVars false
open Go Go.RowKit Go.Tw
set_option linter.unusedVariables false
set_option maxRecDepth 20000
set_option maxHeartbeats 2000000 in
theorem RTouch_ct (F : List Nat) (p : Nat) (L : List Ent) (tr un : Int) (f : Flow) (flags now : Int) (w : World) (ht : dfAt w F p L tr un) : Calls Try.prog 21 #[.pointer (some ⟨p, 0, none⟩), .agg #[.int .i64 f.proto, .int .u32 f.src, .int .i64 f.sport, .int .u32 f.dst, .int .i64 f.dport], .int .i64 flags, .int .i64 now] w fun e w' => ∃ L2 fd F2, e = .returned (.bool fd) ∧ Fr w w' F ∧ dfAt w' F2 p L2 tr un ∧ (∀ x ∈ F2, x ∈ F ∨ w.heap.size ≤ x) ∧ RTouch L tr f flags now L2 fd := by
  refine enterD (n := 91) Try.func21 rfl rfl (Nat.le_of_ble_eq_true rfl) ?_
  intro Q0 hN hret hret'
  have ht0 := ht
  obtain ⟨A1, c1, hp_, ho_, rfl, hn_⟩ := ht
  have hC := Cx.openR hp_ (own_lt ho_) hn_
  have hmx_ := own_max ho_
  refine WC.seq (fun K1 hK2 => ?_)
  refine WC.region ?_
  refine WL.newM hC (fun b => .pointer (some ⟨b, 0, none⟩)) (.cells #[.int .i64 f.proto, .int .u32 f.src, .int .i64 f.sport, .int .u32 f.dst, .int .i64 f.dport] 32) 5 (fun _ => by kernel_rfl) (fun g3 w4 hb7 hF5 hC6 => ?_)
  have ho8 := own_fr ho_ hF5 (by simp)
  have hf9 := (Fr.refl w []).trans hF5 (by simp)
  refine WL.runs 1 [(8, .bool false)] (fun _ => by kernel_rfl) ?_
  refine WL.done rfl ?_
  refine QX.then_normal (hK2 _ _ ?_)
  refine WC.seq (fun K10 hK11 => ?_)
  refine WC.region ?_
  refine WL.runs 1 [(15, .pointer (some ⟨p, 0, none⟩))] (fun _ => by kernel_rfl) ?_
  refine WL.load 32 (.pointer (some ⟨g3, 0, none⟩)) (.agg #[.int .i64 f.proto, .int .u32 f.src, .int .i64 f.sport, .int .u32 f.dst, .int .i64 f.dport]) 16 (by kernel_rfl) (run_ld (hC6.get 1 rfl) rfl) ?_
  refine WL.call rfl rfl rfl rfl rfl (by kernel_rfl) (RFind_ct _ p L tr un f w4 (df_mk hC6 0 0 rfl rfl ho8)) ?_
  rintro _ w20 ⟨r22, rfl, hF19, hfr18⟩
  have hC21 := hC6.call hF19
  have ho23 := own_fr ho8 hF19 (by simp)
  have hf24 := hf9.trans hF19 (by simp)
  rcases hfr18 with hnn17 | ⟨i12, x13, hx14, hfx15, hpr16⟩
  · -- found: False
    refine ⟨_, rfl, ?_⟩
    refine WL.runs 1 [(9, .int .i64 (-1))] (fun _ => by kernel_rfl) ?_
    refine WL.done rfl ?_
    refine QX.then_normal (hK11 _ _ ?_)
    refine WC.seq (fun K25 hK26 => ?_)
    refine WC.seq (fun K27 hK28 => ?_)
    refine WC.region ?_
    refine WL.runs 7 [(24, .bool true), (23, undef), (22, undef), (21, undef), (20, .bool true), (19, .bool true), (18, .int .i64 (-1))] (fun _ => by kernel_rfl) ?_
    refine WL.done rfl ?_
    refine QX.then_normal (hK28 _ _ ?_)
    refine WC.cond_true rfl ?_
    refine WC.seq (fun K29 hK30 => ?_)
    refine WC.region ?_
    refine WL.runs 1 [(8, .bool false)] (fun _ => by kernel_rfl) ?_
    refine WL.done rfl ?_
    refine QX.then_normal (hK30 _ _ ?_)
    refine WC.ret ?_
    refine QX.then_ret ?_
    refine (hret _ _ _ rfl ?_).1
    clear hN hret hret' hK30 hK28 hK26 hK11 hK2
    exact ⟨_, false, _, rfl, hC21.fr, df_mk hC21 0 0 rfl rfl ho23, fun x_ hx_ => (List.mem_cons.1 hx_).elim (fun e_ => by subst e_; exact .inl List.mem_cons_self) (fun h_ => hC21.ownF _ (List.mem_of_getElem? (show _[0]? = some (blk (.slice A1 L.length c1)) from rfl)) x_ h_), .none hnn17⟩
  · -- found: True
    have hil_ := (List.getElem?_eq_some_iff.1 hx14).1
    refine ⟨_, rfl, ?_⟩
    refine WL.runs 1 [(9, .int .i64 (i12 : Int))] (fun _ => by kernel_rfl) ?_
    refine WL.done rfl ?_
    refine QX.then_normal (hK11 _ _ ?_)
    refine WC.seq (fun K31 hK32 => ?_)
    refine WC.seq (fun K33 hK34 => ?_)
    refine WC.region ?_
    refine WL.runs 3 [(20, .bool (decide ((i12 : Int) < 0))), (19, .bool (decide ((i12 : Int) < 0))), (18, .int .i64 (i12 : Int))] (fun _ => by kernel_rfl) ?_
    refine WL.know 20 (.bool (decide ((i12 : Int) < 0))) (.bool false) rfl (congrArg Value.bool (by exact decide_eq_false (by omega))) ?_
    refine WL.runs 1 [(21, .int .i64 now)] (fun _ => by kernel_rfl) ?_
    refine WL.call rfl rfl rfl rfl rfl (by kernel_rfl) (time_ct now w20) ?_
    rintro _ w36 ⟨rfl, hF35⟩
    refine ⟨_, rfl, ?_⟩
    have hC37 := hC21.call hF35
    have ho38 := own_fr ho23 hF35 (by simp)
    have hf39 := hf24.trans hF35 (by simp)
    refine WL.runs 2 [(24, .bool (!(goodTime now))), (23, .bool (!(goodTime now)))] (fun _ => by kernel_rfl) ?_
    refine WL.done rfl ?_
    refine QX.then_normal (hK34 _ _ ?_)
    refine WC.test_at 24 (!(goodTime now)) rfl (fun t40b => ?_) (fun t40b => ?_)
    · -- (!(goodTime now)) = true: true
      have t40 : (goodTime now) = false := by first | (simpa only [Bool.not_eq_true', Bool.not_eq_false'] using t40b) | simpa using t40b
      refine WC.cond_true rfl ?_
      refine WC.seq (fun K41 hK42 => ?_)
      refine WC.region ?_
      refine WL.runs 1 [(8, .bool false)] (fun _ => by kernel_rfl) ?_
      refine WL.done rfl ?_
      refine QX.then_normal (hK42 _ _ ?_)
      refine WC.ret ?_
      refine QX.then_ret ?_
      refine (hret _ _ _ rfl ?_).1
      clear hN hret hret' hK42 hK34 hK32 hK11 hK2
      exact ⟨_, false, _, rfl, hC37.fr, df_mk hC37 0 0 rfl rfl ho38, fun x_ hx_ => (List.mem_cons.1 hx_).elim (fun e_ => by subst e_; exact .inl List.mem_cons_self) (fun h_ => hC37.ownF _ (List.mem_of_getElem? (show _[0]? = some (blk (.slice A1 L.length c1)) from rfl)) x_ h_), .time t40⟩
    · -- (!(goodTime now)) = true: false
      have t40 : (goodTime now) = true := by first | (simpa only [Bool.not_eq_true', Bool.not_eq_false'] using t40b) | simpa using t40b
      refine WC.cond_false rfl ?_
      refine WC.skip ?_
      refine QX.then_normal (hK32 _ _ ?_)
      refine WC.seq (fun K43 hK44 => ?_)
      refine WC.region ?_
      refine WL.runs 3 [(27, .pointer (some ⟨p, 0, none⟩)), (26, .pointer (some ⟨p, 0, none⟩)), (25, .pointer (some ⟨p, 0, none⟩))] (fun _ => by kernel_rfl) ?_
      refine WL.load 44 (.pointer (some ⟨p, 0, none⟩)) (.slice A1 L.length c1) 28 (by kernel_rfl) (run_ld (hC37.get 0 rfl) rfl) ?_
      refine WL.runs 1 [(29, .int .i64 (i12 : Int))] (fun _ => by kernel_rfl) ?_
      have hn49 := own_count cellsE_len (by decide) ho38
      obtain ⟨e45, he46⟩ := get_some (xs := L) (i := i12) (by omega)
      obtain ⟨b47, hA48⟩ := own_addr (by decide) cellsE_len ho38 he46
      refine WL.index A1 L.length c1 30 .i64 (i12 : Int) b47 0 i12 10 (by kernel_rfl) hA48 (by omega) (by omega) (i12 * 10) (by first | (simp; done) | omega) ?_
      refine WL.load 34 (.pointer (some ⟨b47, i12 * 10, none⟩)) (.agg #[.int .i64 e45.flow.proto, .int .u32 e45.flow.src, .int .i64 e45.flow.sport, .int .u32 e45.flow.dst, .int .i64 e45.flow.dport, .int .u32 e45.dip, .int .i64 e45.epoch, .bool e45.trusted, .bool e45.closing, .int .i64 e45.last]) 31 (by kernel_rfl) (run_rdN (l := [.int .i64 e45.flow.proto, .int .u32 e45.flow.src, .int .i64 e45.flow.sport, .int .u32 e45.flow.dst, .int .i64 e45.flow.dport, .int .u32 e45.dip, .int .i64 e45.epoch, .bool e45.trusted, .bool e45.closing, .int .i64 e45.last]) rfl rfl (fun j u hu => by have hq_ := Rd.cell (own_rd ho38 cellsE_len (by decide)) hA48 he46 j u hu; simpa [Nat.add_assoc] using hq_)) ?_
      have hex_ := Option.some.inj (hx14.symm.trans he46)
      refine WL.newM hC37 (fun b => .pointer (some ⟨b, 0, none⟩)) (.cells #[.int .i64 0, .int .u32 0, .int .i64 0, .int .u32 0, .int .i64 0, .int .u32 0, .int .i64 0, .bool false, .bool false, .int .i64 0] 34) 10 (fun _ => by kernel_rfl) (fun g50 w51 hb54 hF52 hC53 => ?_)
      have ho55 := own_fr ho38 hF52 (by simp)
      have hf56 := hf39.trans hF52 (by simp)
      refine WL.storeM (c' := #[.int .i64 e45.flow.proto, .int .u32 e45.flow.src, .int .i64 e45.flow.sport, .int .u32 e45.flow.dst, .int .i64 e45.flow.dport, .int .u32 e45.dip, .int .i64 e45.epoch, .bool e45.trusted, .bool e45.closing, .int .i64 e45.last]) hC53 2 34 g50 0 (.agg #[.int .i64 e45.flow.proto, .int .u32 e45.flow.src, .int .i64 e45.flow.sport, .int .u32 e45.flow.dst, .int .i64 e45.flow.dport, .int .u32 e45.dip, .int .i64 e45.epoch, .bool e45.trusted, .bool e45.closing, .int .i64 e45.last]) (by kernel_rfl) rfl (by kernel_rfl) (fun w57 hF59 hC60 => ?_)
      have ho61 := own_fr ho55 hF59 (hC53.apartM 0 2 rfl rfl)
      refine WL.done rfl ?_
      refine QX.then_normal (hK44 _ _ ?_)
      refine WC.seq (fun K62 hK63 => ?_)
      refine WC.region ?_
      refine WL.runs 2 [(33, .pointer (some ⟨g50, 9, none⟩)), (32, .int .i64 now)] (fun _ => by kernel_rfl) ?_
      refine WL.storeM (c' := #[.int .i64 e45.flow.proto, .int .u32 e45.flow.src, .int .i64 e45.flow.sport, .int .u32 e45.flow.dst, .int .i64 e45.flow.dport, .int .u32 e45.dip, .int .i64 e45.epoch, .bool e45.trusted, .bool e45.closing, .int .i64 now]) hC60 2 3 g50 9 (.int .i64 now) (by kernel_rfl) rfl (by kernel_rfl) (fun w64 hF66 hC67 => ?_)
      have ho68 := own_fr ho61 hF66 (hC60.apartM 0 2 rfl rfl)
      refine WL.done rfl ?_
      refine QX.then_normal (hK63 _ _ ?_)
      refine WC.seq (fun K69 hK70 => ?_)
      refine WC.region ?_
      refine WL.runs 1 [(34, .pointer (some ⟨g3, 0, none⟩))] (fun _ => by kernel_rfl) ?_
      refine WL.load 3 (.pointer (some ⟨g3, 0, none⟩)) (.int .i64 f.proto) 35 (by kernel_rfl) (run_ld (hC67.get 1 rfl) rfl) ?_
      refine WL.runs 2 [(37, .bool (f.proto == 6)), (36, .bool (f.proto == 6))] (fun _ => by kernel_rfl) ?_
      refine WL.test_at 37 (f.proto == 6) rfl (fun t71b => ?_) (fun t71b => ?_)
      · -- f.proto = 6: true
        have t71 : f.proto = 6 := by simpa using t71b
        refine WL.runs 4 [(41, .bool ((Go.bits .and .i64 flags 1) == 1)), (40, .bool ((Go.bits .and .i64 flags 1) == 1)), (39, .int .i64 (Go.bits .and .i64 flags 1)), (38, .int .i64 flags)] (fun _ => by kernel_rfl) ?_
        refine WL.test_at 41 ((Go.bits .and .i64 flags 1) == 1) rfl (fun t72b => ?_) (fun t72b => ?_)
        · -- (Go.bits .and .i64 flags 1) = 1: true
          have t72 : (Go.bits .and .i64 flags 1) = 1 := by simpa using t72b
          refine WL.runs 6 [(11, .bool true), (46, .bool true), (45, .bool true), (44, undef), (43, undef), (42, undef)] (fun _ => by kernel_rfl) ?_
          refine WL.done rfl ?_
          refine QX.then_normal (hK70 _ _ ?_)
          refine WC.seq (fun K73 hK74 => ?_)
          refine WC.region ?_
          refine WL.runs 1 [(47, .pointer (some ⟨g3, 0, none⟩))] (fun _ => by kernel_rfl) ?_
          refine WL.load 3 (.pointer (some ⟨g3, 0, none⟩)) (.int .i64 f.proto) 48 (by kernel_rfl) (run_ld (hC67.get 1 rfl) rfl) ?_
          refine WL.runs 2 [(50, .bool (f.proto == 6)), (49, .bool (f.proto == 6))] (fun _ => by kernel_rfl) ?_
          refine WL.know 50 (.bool (f.proto == 6)) (.bool true) rfl (congrArg Value.bool (by exact t71b)) ?_
          refine WL.runs 5 [(12, .bool ((Go.bits .and .i64 flags 2) == 2)), (54, .bool ((Go.bits .and .i64 flags 2) == 2)), (53, .bool ((Go.bits .and .i64 flags 2) == 2)), (52, .int .i64 (Go.bits .and .i64 flags 2)), (51, .int .i64 flags)] (fun _ => by kernel_rfl) ?_
          refine WL.done rfl ?_
          refine QX.then_normal (hK74 _ _ ?_)
          refine WC.seq (fun K75 hK76 => ?_)
          refine WC.seq (fun K77 hK78 => ?_)
          refine WC.region ?_
          refine WL.runs 1 [(55, .bool true)] (fun _ => by kernel_rfl) ?_
          refine WL.done rfl ?_
          refine QX.then_normal (hK78 _ _ ?_)
          refine WC.cond_true rfl ?_
          refine WC.region ?_
          refine WL.runs 1 [(56, .pointer (some ⟨g50, 8, none⟩))] (fun _ => by kernel_rfl) ?_
          refine WL.storeM (c' := #[.int .i64 e45.flow.proto, .int .u32 e45.flow.src, .int .i64 e45.flow.sport, .int .u32 e45.flow.dst, .int .i64 e45.flow.dport, .int .u32 e45.dip, .int .i64 e45.epoch, .bool e45.trusted, .bool true, .int .i64 now]) hC67 2 4 g50 8 (.bool true) (by kernel_rfl) rfl (by kernel_rfl) (fun w79 hF81 hC82 => ?_)
          have ho83 := own_fr ho68 hF81 (hC67.apartM 0 2 rfl rfl)
          refine WL.done rfl ?_
          refine QX.then_normal (hK76 _ _ ?_)
          refine WC.seq (fun K84 hK85 => ?_)
          refine WC.seq (fun K86 hK87 => ?_)
          refine WC.region ?_
          refine WL.runs 2 [(58, .bool ((Go.bits .and .i64 flags 2) == 2)), (57, .bool ((Go.bits .and .i64 flags 2) == 2))] (fun _ => by kernel_rfl) ?_
          refine WL.test_at 58 ((Go.bits .and .i64 flags 2) == 2) rfl (fun t88b => ?_) (fun t88b => ?_)
          · -- (Go.bits .and .i64 flags 2) = 2: true
            have t88 : (Go.bits .and .i64 flags 2) = 2 := by simpa using t88b
            refine WL.runs 3 [(61, .bool false), (60, .bool false), (59, .bool true)] (fun _ => by kernel_rfl) ?_
            refine WL.done rfl ?_
            refine QX.then_normal (hK87 _ _ ?_)
            refine WC.cond_false rfl ?_
            refine WC.skip ?_
            refine QX.then_normal (hK85 _ _ ?_)
            refine WC.seq (fun K89 hK90 => ?_)
            refine WC.region ?_
            refine WL.runs 1 [(64, .pointer (some ⟨p, 0, none⟩))] (fun _ => by kernel_rfl) ?_
            refine WL.call rfl rfl rfl rfl rfl (by kernel_rfl) (RLen_ct _ p L tr un w79 (df_mk hC82 0 0 rfl rfl ho83)) ?_
            rintro _ w92 ⟨rfl, hF91⟩
            refine ⟨_, rfl, ?_⟩
            have hC93 := hC82.call hF91
            have ho94 := own_fr ho83 hF91 (by simp)
            refine WL.runs 5 [(14, .int .i64 ((L.length : Int) - cntE L)), (13, .int .i64 (cntE L : Int)), (67, .int .i64 ((L.length : Int) - cntE L)), (66, .int .i64 (cntE L : Int)), (63, .tuple #[.int .i64 (cntE L : Int), .int .i64 ((L.length : Int) - cntE L)])] (fun _ => by kernel_rfl) ?_
            refine WL.done rfl ?_
            refine QX.then_normal (hK90 _ _ ?_)
            refine WC.seq (fun K95 hK96 => ?_)
            refine WC.seq (fun K97 hK98 => ?_)
            refine WC.region ?_
            refine WL.runs 1 [(68, .pointer (some ⟨g50, 7, none⟩))] (fun _ => by kernel_rfl) ?_
            refine WL.load 4 (.pointer (some ⟨g50, 7, none⟩)) (.bool e45.trusted) 69 (by kernel_rfl) (run_ld (hC93.get 2 rfl) rfl) ?_
            refine WL.runs 2 [(71, .bool !e45.trusted), (70, .bool !e45.trusted)] (fun _ => by kernel_rfl) ?_
            refine WL.test_at 71 (!e45.trusted) rfl (fun t99b => ?_) (fun t99b => ?_)
            · -- !e45.trusted = true: true
              have t99 : e45.trusted = false := by first | (simpa only [Bool.not_eq_true', Bool.not_eq_false'] using t99b) | simpa using t99b
              refine WL.runs 4 [(75, .bool (!((Go.bits .and .i64 flags 2) == 2))), (74, .bool (!((Go.bits .and .i64 flags 2) == 2))), (73, .bool (!((Go.bits .and .i64 flags 2) == 2))), (72, .bool ((Go.bits .and .i64 flags 2) == 2))] (fun _ => by kernel_rfl) ?_
              refine WL.know 75 (.bool (!((Go.bits .and .i64 flags 2) == 2))) (.bool false) rfl (congrArg Value.bool (by rw [t88b]; rfl)) ?_
              refine WL.runs 7 [(82, .bool false), (81, undef), (80, undef), (79, undef), (78, undef), (77, undef), (76, undef)] (fun _ => by kernel_rfl) ?_
              refine WL.done rfl ?_
              refine QX.then_normal (hK98 _ _ ?_)
              refine WC.cond_false rfl ?_
              refine WC.skip ?_
              refine QX.then_normal (hK96 _ _ ?_)
              refine WC.seq (fun K100 hK101 => ?_)
              refine WC.drawC hC93 (blk (.slice A1 L.length c1)) (by kernel_rfl) (fun w102 hF103 hC104 hS105 => ?_)
              have ho106 := own_fr ho94 hF103 (by simp)
              refine WD.pure (NoPanic.then hN) 0 84 (.pointer (some ⟨p, 0, none⟩)) (by kernel_rfl) (fun _ => by kernel_rfl) hS105 ?_
              refine WD.pure (NoPanic.then hN) 1 85 (.pointer (some ⟨p, 0, none⟩)) (by kernel_rfl) (fun _ => by kernel_rfl) hS105 ?_
              refine WD.pure (NoPanic.then hN) 2 86 (.pointer (some ⟨p, 0, none⟩)) (by kernel_rfl) (fun _ => by kernel_rfl) hS105 ?_
              refine WD.pure (NoPanic.then hN) 4 88 (.int .i64 (i12 : Int)) (by kernel_rfl) (fun _ => by kernel_rfl) hS105 ?_
              refine WD.load (NoPanic.then hN) 3 44 (.pointer (some ⟨p, 0, none⟩)) (.slice A1 L.length c1) 87 (by kernel_rfl) (by kernel_rfl) (fun _ hS_ => run_ld (Fr.has hS_ (hC104.get 0 rfl) (hC104.notin 0 0 rfl rfl)) rfl) hS105 ?_
              refine WD.sem 5 (Instr.loadAt 34 (.pointer (some ⟨g50, 0, none⟩))) 89 (.agg #[.int .i64 e45.flow.proto, .int .u32 e45.flow.src, .int .i64 e45.flow.sport, .int .u32 e45.flow.dst, .int .i64 e45.flow.dport, .int .u32 e45.dip, .int .i64 e45.epoch, .bool e45.trusted, .bool true, .int .i64 now]) (by kernel_rfl) (by kernel_rfl) (run_ld (hC104.get 2 rfl) rfl) hS105 ?_
              refine WD.index (NoPanic.then hN) 6 A1 L.length c1 90 .i64 (i12 : Int) b47 0 i12 10 (by kernel_rfl) (by kernel_rfl) hA48 (by omega) (by omega) (i12 * 10) (by first | (simp; done) | omega) hS105 ?_
              obtain ⟨w111, hr112, hF113, ho115, hC114⟩ := stoE_run Try.prog cellsE_len hC104 0 hA48 rfl ho106 i12 0 (x := e45) he46 (⟨e45.flow, e45.dip, e45.epoch, e45.trusted, true, now⟩ : Ent) [.int .i64 e45.flow.proto, .int .u32 e45.flow.src, .int .i64 e45.flow.sport, .int .u32 e45.flow.dst, .int .i64 e45.flow.dport, .int .u32 e45.dip, .int .i64 e45.epoch, .bool e45.trusted, .bool true, .int .i64 now] rfl 34 (.agg #[.int .i64 e45.flow.proto, .int .u32 e45.flow.src, .int .i64 e45.flow.sport, .int .u32 e45.flow.dst, .int .i64 e45.flow.dport, .int .u32 e45.dip, .int .i64 e45.epoch, .bool e45.trusted, .bool true, .int .i64 now]) (i12 * 10) rfl rfl rfl (by first | rfl | simp [Nat.add_assoc])
              have hS116 := hS105.trans hF113 (fun x_ hx_ => .inl hx_)
              refine WD.semU 7 (Instr.storeAt 34 (.pointer (some ⟨b47, i12 * 10, none⟩)) (.agg #[.int .i64 e45.flow.proto, .int .u32 e45.flow.src, .int .i64 e45.flow.sport, .int .u32 e45.flow.dst, .int .i64 e45.flow.dport, .int .u32 e45.dip, .int .i64 e45.epoch, .bool e45.trusted, .bool true, .int .i64 now])) (by kernel_rfl) (by kernel_rfl) hr112 hS116 ?_
              refine WD.done (by kernel_rfl) ?_
              refine QX.then_normal (hK101 _ _ ?_)
              refine WC.seq (fun K117 hK118 => ?_)
              refine WC.region ?_
              refine WL.runs 1 [(8, .bool true)] (fun _ => by kernel_rfl) ?_
              refine WL.done rfl ?_
              refine QX.then_normal (hK118 _ _ ?_)
              refine WC.ret ?_
              refine (hret _ _ _ rfl ?_).1
              clear hN hret hret' hK118 hK101 hK98 hK96 hK90 hK87 hK85 hK78 hK76 hK74 hK70 hK63 hK44 hK34 hK32 hK11 hK2
              have hte_ : touchE L tr e45 f flags now = (⟨e45.flow, e45.dip, e45.epoch, e45.trusted, true, now⟩ : Ent) := by unfold touchE; simp [hx14, t40, t40b, t71, t71b, t72, t72b, t88, t88b, t99, t99b]
              have hown_ := ho115
              rw [← hte_] at hown_
              exact ⟨_, true, _, rfl, hC114.fr, df_mk hC114 0 0 rfl rfl hown_, fun x_ hx_ => (List.mem_cons.1 hx_).elim (fun e_ => by subst e_; exact .inl List.mem_cons_self) (fun h_ => hC114.ownF _ (List.mem_of_getElem? (show _[0]? = some (blk (.slice A1 L.length c1)) from rfl)) x_ h_), .some _ _ t40 he46 (by subst x13; exact hfx15)⟩
            · -- !e45.trusted = true: false
              have t99 : e45.trusted = true := by first | (simpa only [Bool.not_eq_true', Bool.not_eq_false'] using t99b) | simpa using t99b
              refine WL.runs 11 [(82, .bool false), (81, undef), (80, undef), (79, undef), (78, undef), (77, undef), (76, undef), (75, .bool false), (74, .bool false), (73, undef), (72, undef)] (fun _ => by kernel_rfl) ?_
              refine WL.done rfl ?_
              refine QX.then_normal (hK98 _ _ ?_)
              refine WC.cond_false rfl ?_
              refine WC.skip ?_
              refine QX.then_normal (hK96 _ _ ?_)
              refine WC.seq (fun K119 hK120 => ?_)
              refine WC.drawC hC93 (blk (.slice A1 L.length c1)) (by kernel_rfl) (fun w121 hF122 hC123 hS124 => ?_)
              have ho125 := own_fr ho94 hF122 (by simp)
              refine WD.pure (NoPanic.then hN) 0 84 (.pointer (some ⟨p, 0, none⟩)) (by kernel_rfl) (fun _ => by kernel_rfl) hS124 ?_
              refine WD.pure (NoPanic.then hN) 1 85 (.pointer (some ⟨p, 0, none⟩)) (by kernel_rfl) (fun _ => by kernel_rfl) hS124 ?_
              refine WD.pure (NoPanic.then hN) 2 86 (.pointer (some ⟨p, 0, none⟩)) (by kernel_rfl) (fun _ => by kernel_rfl) hS124 ?_
              refine WD.pure (NoPanic.then hN) 4 88 (.int .i64 (i12 : Int)) (by kernel_rfl) (fun _ => by kernel_rfl) hS124 ?_
              refine WD.load (NoPanic.then hN) 3 44 (.pointer (some ⟨p, 0, none⟩)) (.slice A1 L.length c1) 87 (by kernel_rfl) (by kernel_rfl) (fun _ hS_ => run_ld (Fr.has hS_ (hC123.get 0 rfl) (hC123.notin 0 0 rfl rfl)) rfl) hS124 ?_
              refine WD.sem 5 (Instr.loadAt 34 (.pointer (some ⟨g50, 0, none⟩))) 89 (.agg #[.int .i64 e45.flow.proto, .int .u32 e45.flow.src, .int .i64 e45.flow.sport, .int .u32 e45.flow.dst, .int .i64 e45.flow.dport, .int .u32 e45.dip, .int .i64 e45.epoch, .bool e45.trusted, .bool true, .int .i64 now]) (by kernel_rfl) (by kernel_rfl) (run_ld (hC123.get 2 rfl) rfl) hS124 ?_
              refine WD.index (NoPanic.then hN) 6 A1 L.length c1 90 .i64 (i12 : Int) b47 0 i12 10 (by kernel_rfl) (by kernel_rfl) hA48 (by omega) (by omega) (i12 * 10) (by first | (simp; done) | omega) hS124 ?_
              obtain ⟨w130, hr131, hF132, ho134, hC133⟩ := stoE_run Try.prog cellsE_len hC123 0 hA48 rfl ho125 i12 0 (x := e45) he46 (⟨e45.flow, e45.dip, e45.epoch, e45.trusted, true, now⟩ : Ent) [.int .i64 e45.flow.proto, .int .u32 e45.flow.src, .int .i64 e45.flow.sport, .int .u32 e45.flow.dst, .int .i64 e45.flow.dport, .int .u32 e45.dip, .int .i64 e45.epoch, .bool e45.trusted, .bool true, .int .i64 now] rfl 34 (.agg #[.int .i64 e45.flow.proto, .int .u32 e45.flow.src, .int .i64 e45.flow.sport, .int .u32 e45.flow.dst, .int .i64 e45.flow.dport, .int .u32 e45.dip, .int .i64 e45.epoch, .bool e45.trusted, .bool true, .int .i64 now]) (i12 * 10) rfl rfl rfl (by first | rfl | simp [Nat.add_assoc])
              have hS135 := hS124.trans hF132 (fun x_ hx_ => .inl hx_)
              refine WD.semU 7 (Instr.storeAt 34 (.pointer (some ⟨b47, i12 * 10, none⟩)) (.agg #[.int .i64 e45.flow.proto, .int .u32 e45.flow.src, .int .i64 e45.flow.sport, .int .u32 e45.flow.dst, .int .i64 e45.flow.dport, .int .u32 e45.dip, .int .i64 e45.epoch, .bool e45.trusted, .bool true, .int .i64 now])) (by kernel_rfl) (by kernel_rfl) hr131 hS135 ?_
              refine WD.done (by kernel_rfl) ?_
              refine QX.then_normal (hK120 _ _ ?_)
              refine WC.seq (fun K136 hK137 => ?_)
              refine WC.region ?_
              refine WL.runs 1 [(8, .bool true)] (fun _ => by kernel_rfl) ?_
              refine WL.done rfl ?_
              refine QX.then_normal (hK137 _ _ ?_)
              refine WC.ret ?_
              refine (hret _ _ _ rfl ?_).1
              clear hN hret hret' hK137 hK120 hK98 hK96 hK90 hK87 hK85 hK78 hK76 hK74 hK70 hK63 hK44 hK34 hK32 hK11 hK2
              have hte_ : touchE L tr e45 f flags now = (⟨e45.flow, e45.dip, e45.epoch, e45.trusted, true, now⟩ : Ent) := by unfold touchE; simp [hx14, t40, t40b, t71, t71b, t72, t72b, t88, t88b, t99, t99b]
              have hown_ := ho134
              rw [← hte_] at hown_
              exact ⟨_, true, _, rfl, hC133.fr, df_mk hC133 0 0 rfl rfl hown_, fun x_ hx_ => (List.mem_cons.1 hx_).elim (fun e_ => by subst e_; exact .inl List.mem_cons_self) (fun h_ => hC133.ownF _ (List.mem_of_getElem? (show _[0]? = some (blk (.slice A1 L.length c1)) from rfl)) x_ h_), .some _ _ t40 he46 (by subst x13; exact hfx15)⟩
          · -- (Go.bits .and .i64 flags 2) = 2: false
            have t88 : ¬ ((Go.bits .and .i64 flags 2) = 2) := by simpa using t88b
            refine WL.runs 3 [(61, .bool false), (60, undef), (59, undef)] (fun _ => by kernel_rfl) ?_
            refine WL.done rfl ?_
            refine QX.then_normal (hK87 _ _ ?_)
            refine WC.cond_false rfl ?_
            refine WC.skip ?_
            refine QX.then_normal (hK85 _ _ ?_)
            refine WC.seq (fun K138 hK139 => ?_)
            refine WC.region ?_
            refine WL.runs 1 [(64, .pointer (some ⟨p, 0, none⟩))] (fun _ => by kernel_rfl) ?_
            refine WL.call rfl rfl rfl rfl rfl (by kernel_rfl) (RLen_ct _ p L tr un w79 (df_mk hC82 0 0 rfl rfl ho83)) ?_
            rintro _ w141 ⟨rfl, hF140⟩
            refine ⟨_, rfl, ?_⟩
            have hC142 := hC82.call hF140
            have ho143 := own_fr ho83 hF140 (by simp)
            refine WL.runs 5 [(14, .int .i64 ((L.length : Int) - cntE L)), (13, .int .i64 (cntE L : Int)), (67, .int .i64 ((L.length : Int) - cntE L)), (66, .int .i64 (cntE L : Int)), (63, .tuple #[.int .i64 (cntE L : Int), .int .i64 ((L.length : Int) - cntE L)])] (fun _ => by kernel_rfl) ?_
            refine WL.done rfl ?_
            refine QX.then_normal (hK139 _ _ ?_)
            refine WC.seq (fun K144 hK145 => ?_)
            refine WC.seq (fun K146 hK147 => ?_)
            refine WC.region ?_
            refine WL.runs 1 [(68, .pointer (some ⟨g50, 7, none⟩))] (fun _ => by kernel_rfl) ?_
            refine WL.load 4 (.pointer (some ⟨g50, 7, none⟩)) (.bool e45.trusted) 69 (by kernel_rfl) (run_ld (hC142.get 2 rfl) rfl) ?_
            refine WL.runs 2 [(71, .bool !e45.trusted), (70, .bool !e45.trusted)] (fun _ => by kernel_rfl) ?_
            refine WL.test_at 71 (!e45.trusted) rfl (fun t148b => ?_) (fun t148b => ?_)
            · -- !e45.trusted = true: true
              have t148 : e45.trusted = false := by first | (simpa only [Bool.not_eq_true', Bool.not_eq_false'] using t148b) | simpa using t148b
              refine WL.runs 4 [(75, .bool (!((Go.bits .and .i64 flags 2) == 2))), (74, .bool (!((Go.bits .and .i64 flags 2) == 2))), (73, .bool (!((Go.bits .and .i64 flags 2) == 2))), (72, .bool ((Go.bits .and .i64 flags 2) == 2))] (fun _ => by kernel_rfl) ?_
              refine WL.know 75 (.bool (!((Go.bits .and .i64 flags 2) == 2))) (.bool true) rfl (congrArg Value.bool (by rw [t88b]; rfl)) ?_
              refine WL.runs 4 [(79, .pointer (some ⟨p, 1, none⟩)), (78, .pointer (some ⟨p, 0, none⟩)), (77, .pointer (some ⟨p, 0, none⟩)), (76, .int .i64 (cntE L : Int))] (fun _ => by kernel_rfl) ?_
              refine WL.load 3 (.pointer (some ⟨p, 1, none⟩)) (.int .i64 tr) 80 (by kernel_rfl) (run_ld (hC142.get 0 rfl) rfl) ?_
              refine WL.runs 2 [(82, .bool (decide ((cntE L : Int) < tr))), (81, .bool (decide ((cntE L : Int) < tr)))] (fun _ => by kernel_rfl) ?_
              refine WL.done rfl ?_
              refine QX.then_normal (hK147 _ _ ?_)
              refine WC.test_at 82 (decide ((cntE L : Int) < tr)) rfl (fun t149b => ?_) (fun t149b => ?_)
              · -- (cntE L : Int) < tr: true
                have t149 : (cntE L : Int) < tr := by have q_ := of_decide_eq_true t149b; omega
                refine WC.cond_true rfl ?_
                refine WC.region ?_
                refine WL.runs 1 [(83, .pointer (some ⟨g50, 7, none⟩))] (fun _ => by kernel_rfl) ?_
                refine WL.storeM (c' := #[.int .i64 e45.flow.proto, .int .u32 e45.flow.src, .int .i64 e45.flow.sport, .int .u32 e45.flow.dst, .int .i64 e45.flow.dport, .int .u32 e45.dip, .int .i64 e45.epoch, .bool true, .bool true, .int .i64 now]) hC142 2 4 g50 7 (.bool true) (by kernel_rfl) rfl (by kernel_rfl) (fun w150 hF152 hC153 => ?_)
                have ho154 := own_fr ho143 hF152 (hC142.apartM 0 2 rfl rfl)
                refine WL.done rfl ?_
                refine QX.then_normal (hK145 _ _ ?_)
                refine WC.seq (fun K155 hK156 => ?_)
                refine WC.drawC hC153 (blk (.slice A1 L.length c1)) (by kernel_rfl) (fun w157 hF158 hC159 hS160 => ?_)
                have ho161 := own_fr ho154 hF158 (by simp)
                refine WD.pure (NoPanic.then hN) 0 84 (.pointer (some ⟨p, 0, none⟩)) (by kernel_rfl) (fun _ => by kernel_rfl) hS160 ?_
                refine WD.pure (NoPanic.then hN) 1 85 (.pointer (some ⟨p, 0, none⟩)) (by kernel_rfl) (fun _ => by kernel_rfl) hS160 ?_
                refine WD.pure (NoPanic.then hN) 2 86 (.pointer (some ⟨p, 0, none⟩)) (by kernel_rfl) (fun _ => by kernel_rfl) hS160 ?_
                refine WD.pure (NoPanic.then hN) 4 88 (.int .i64 (i12 : Int)) (by kernel_rfl) (fun _ => by kernel_rfl) hS160 ?_
                refine WD.load (NoPanic.then hN) 3 44 (.pointer (some ⟨p, 0, none⟩)) (.slice A1 L.length c1) 87 (by kernel_rfl) (by kernel_rfl) (fun _ hS_ => run_ld (Fr.has hS_ (hC159.get 0 rfl) (hC159.notin 0 0 rfl rfl)) rfl) hS160 ?_
                refine WD.sem 5 (Instr.loadAt 34 (.pointer (some ⟨g50, 0, none⟩))) 89 (.agg #[.int .i64 e45.flow.proto, .int .u32 e45.flow.src, .int .i64 e45.flow.sport, .int .u32 e45.flow.dst, .int .i64 e45.flow.dport, .int .u32 e45.dip, .int .i64 e45.epoch, .bool true, .bool true, .int .i64 now]) (by kernel_rfl) (by kernel_rfl) (run_ld (hC159.get 2 rfl) rfl) hS160 ?_
                refine WD.index (NoPanic.then hN) 6 A1 L.length c1 90 .i64 (i12 : Int) b47 0 i12 10 (by kernel_rfl) (by kernel_rfl) hA48 (by omega) (by omega) (i12 * 10) (by first | (simp; done) | omega) hS160 ?_
                obtain ⟨w166, hr167, hF168, ho170, hC169⟩ := stoE_run Try.prog cellsE_len hC159 0 hA48 rfl ho161 i12 0 (x := e45) he46 (⟨e45.flow, e45.dip, e45.epoch, true, true, now⟩ : Ent) [.int .i64 e45.flow.proto, .int .u32 e45.flow.src, .int .i64 e45.flow.sport, .int .u32 e45.flow.dst, .int .i64 e45.flow.dport, .int .u32 e45.dip, .int .i64 e45.epoch, .bool true, .bool true, .int .i64 now] rfl 34 (.agg #[.int .i64 e45.flow.proto, .int .u32 e45.flow.src, .int .i64 e45.flow.sport, .int .u32 e45.flow.dst, .int .i64 e45.flow.dport, .int .u32 e45.dip, .int .i64 e45.epoch, .bool true, .bool true, .int .i64 now]) (i12 * 10) rfl rfl rfl (by first | rfl | simp [Nat.add_assoc])
                have hS171 := hS160.trans hF168 (fun x_ hx_ => .inl hx_)
                refine WD.semU 7 (Instr.storeAt 34 (.pointer (some ⟨b47, i12 * 10, none⟩)) (.agg #[.int .i64 e45.flow.proto, .int .u32 e45.flow.src, .int .i64 e45.flow.sport, .int .u32 e45.flow.dst, .int .i64 e45.flow.dport, .int .u32 e45.dip, .int .i64 e45.epoch, .bool true, .bool true, .int .i64 now])) (by kernel_rfl) (by kernel_rfl) hr167 hS171 ?_
                refine WD.done (by kernel_rfl) ?_
                refine QX.then_normal (hK156 _ _ ?_)
                refine WC.seq (fun K172 hK173 => ?_)
                refine WC.region ?_
                refine WL.runs 1 [(8, .bool true)] (fun _ => by kernel_rfl) ?_
                refine WL.done rfl ?_
                refine QX.then_normal (hK173 _ _ ?_)
                refine WC.ret ?_
                refine (hret _ _ _ rfl ?_).1
                clear hN hret hret' hK173 hK156 hK147 hK145 hK139 hK87 hK85 hK78 hK76 hK74 hK70 hK63 hK44 hK34 hK32 hK11 hK2
                have hte_ : touchE L tr e45 f flags now = (⟨e45.flow, e45.dip, e45.epoch, true, true, now⟩ : Ent) := by unfold touchE; simp [hx14, t148, t148b, t149, t149b, t40, t40b, t71, t71b, t72, t72b, t88, t88b]
                have hown_ := ho170
                rw [← hte_] at hown_
                exact ⟨_, true, _, rfl, hC169.fr, df_mk hC169 0 0 rfl rfl hown_, fun x_ hx_ => (List.mem_cons.1 hx_).elim (fun e_ => by subst e_; exact .inl List.mem_cons_self) (fun h_ => hC169.ownF _ (List.mem_of_getElem? (show _[0]? = some (blk (.slice A1 L.length c1)) from rfl)) x_ h_), .some _ _ t40 he46 (by subst x13; exact hfx15)⟩
              · -- (cntE L : Int) < tr: false
                have t149 : tr ≤ (cntE L : Int) := by have q_ := of_decide_eq_false t149b; omega
                refine WC.cond_false rfl ?_
                refine WC.skip ?_
                refine QX.then_normal (hK145 _ _ ?_)
                refine WC.seq (fun K174 hK175 => ?_)
                refine WC.drawC hC142 (blk (.slice A1 L.length c1)) (by kernel_rfl) (fun w176 hF177 hC178 hS179 => ?_)
                have ho180 := own_fr ho143 hF177 (by simp)
                refine WD.pure (NoPanic.then hN) 0 84 (.pointer (some ⟨p, 0, none⟩)) (by kernel_rfl) (fun _ => by kernel_rfl) hS179 ?_
                refine WD.pure (NoPanic.then hN) 1 85 (.pointer (some ⟨p, 0, none⟩)) (by kernel_rfl) (fun _ => by kernel_rfl) hS179 ?_
                refine WD.pure (NoPanic.then hN) 2 86 (.pointer (some ⟨p, 0, none⟩)) (by kernel_rfl) (fun _ => by kernel_rfl) hS179 ?_
                refine WD.pure (NoPanic.then hN) 4 88 (.int .i64 (i12 : Int)) (by kernel_rfl) (fun _ => by kernel_rfl) hS179 ?_
                refine WD.load (NoPanic.then hN) 3 44 (.pointer (some ⟨p, 0, none⟩)) (.slice A1 L.length c1) 87 (by kernel_rfl) (by kernel_rfl) (fun _ hS_ => run_ld (Fr.has hS_ (hC178.get 0 rfl) (hC178.notin 0 0 rfl rfl)) rfl) hS179 ?_
                refine WD.sem 5 (Instr.loadAt 34 (.pointer (some ⟨g50, 0, none⟩))) 89 (.agg #[.int .i64 e45.flow.proto, .int .u32 e45.flow.src, .int .i64 e45.flow.sport, .int .u32 e45.flow.dst, .int .i64 e45.flow.dport, .int .u32 e45.dip, .int .i64 e45.epoch, .bool e45.trusted, .bool true, .int .i64 now]) (by kernel_rfl) (by kernel_rfl) (run_ld (hC178.get 2 rfl) rfl) hS179 ?_
                refine WD.index (NoPanic.then hN) 6 A1 L.length c1 90 .i64 (i12 : Int) b47 0 i12 10 (by kernel_rfl) (by kernel_rfl) hA48 (by omega) (by omega) (i12 * 10) (by first | (simp; done) | omega) hS179 ?_
                obtain ⟨w185, hr186, hF187, ho189, hC188⟩ := stoE_run Try.prog cellsE_len hC178 0 hA48 rfl ho180 i12 0 (x := e45) he46 (⟨e45.flow, e45.dip, e45.epoch, e45.trusted, true, now⟩ : Ent) [.int .i64 e45.flow.proto, .int .u32 e45.flow.src, .int .i64 e45.flow.sport, .int .u32 e45.flow.dst, .int .i64 e45.flow.dport, .int .u32 e45.dip, .int .i64 e45.epoch, .bool e45.trusted, .bool true, .int .i64 now] rfl 34 (.agg #[.int .i64 e45.flow.proto, .int .u32 e45.flow.src, .int .i64 e45.flow.sport, .int .u32 e45.flow.dst, .int .i64 e45.flow.dport, .int .u32 e45.dip, .int .i64 e45.epoch, .bool e45.trusted, .bool true, .int .i64 now]) (i12 * 10) rfl rfl rfl (by first | rfl | simp [Nat.add_assoc])
                have hS190 := hS179.trans hF187 (fun x_ hx_ => .inl hx_)
                refine WD.semU 7 (Instr.storeAt 34 (.pointer (some ⟨b47, i12 * 10, none⟩)) (.agg #[.int .i64 e45.flow.proto, .int .u32 e45.flow.src, .int .i64 e45.flow.sport, .int .u32 e45.flow.dst, .int .i64 e45.flow.dport, .int .u32 e45.dip, .int .i64 e45.epoch, .bool e45.trusted, .bool true, .int .i64 now])) (by kernel_rfl) (by kernel_rfl) hr186 hS190 ?_
                refine WD.done (by kernel_rfl) ?_
                refine QX.then_normal (hK175 _ _ ?_)
                refine WC.seq (fun K191 hK192 => ?_)
                refine WC.region ?_
                refine WL.runs 1 [(8, .bool true)] (fun _ => by kernel_rfl) ?_
                refine WL.done rfl ?_
                refine QX.then_normal (hK192 _ _ ?_)
                refine WC.ret ?_
                refine (hret _ _ _ rfl ?_).1
                clear hN hret hret' hK192 hK175 hK147 hK145 hK139 hK87 hK85 hK78 hK76 hK74 hK70 hK63 hK44 hK34 hK32 hK11 hK2
                have hte_ : touchE L tr e45 f flags now = (⟨e45.flow, e45.dip, e45.epoch, e45.trusted, true, now⟩ : Ent) := by unfold touchE; simp [hx14, t148, t148b, t149, t149b, t40, t40b, t71, t71b, t72, t72b, t88, t88b]
                have hown_ := ho189
                rw [← hte_] at hown_
                exact ⟨_, true, _, rfl, hC188.fr, df_mk hC188 0 0 rfl rfl hown_, fun x_ hx_ => (List.mem_cons.1 hx_).elim (fun e_ => by subst e_; exact .inl List.mem_cons_self) (fun h_ => hC188.ownF _ (List.mem_of_getElem? (show _[0]? = some (blk (.slice A1 L.length c1)) from rfl)) x_ h_), .some _ _ t40 he46 (by subst x13; exact hfx15)⟩
            · -- !e45.trusted = true: false
              have t148 : e45.trusted = true := by first | (simpa only [Bool.not_eq_true', Bool.not_eq_false'] using t148b) | simpa using t148b
              refine WL.runs 11 [(82, .bool false), (81, undef), (80, undef), (79, undef), (78, undef), (77, undef), (76, undef), (75, .bool false), (74, .bool false), (73, undef), (72, undef)] (fun _ => by kernel_rfl) ?_
              refine WL.done rfl ?_
              refine QX.then_normal (hK147 _ _ ?_)
              refine WC.cond_false rfl ?_
              refine WC.skip ?_
              refine QX.then_normal (hK145 _ _ ?_)
              refine WC.seq (fun K193 hK194 => ?_)
              refine WC.drawC hC142 (blk (.slice A1 L.length c1)) (by kernel_rfl) (fun w195 hF196 hC197 hS198 => ?_)
              have ho199 := own_fr ho143 hF196 (by simp)
              refine WD.pure (NoPanic.then hN) 0 84 (.pointer (some ⟨p, 0, none⟩)) (by kernel_rfl) (fun _ => by kernel_rfl) hS198 ?_
              refine WD.pure (NoPanic.then hN) 1 85 (.pointer (some ⟨p, 0, none⟩)) (by kernel_rfl) (fun _ => by kernel_rfl) hS198 ?_
              refine WD.pure (NoPanic.then hN) 2 86 (.pointer (some ⟨p, 0, none⟩)) (by kernel_rfl) (fun _ => by kernel_rfl) hS198 ?_
              refine WD.pure (NoPanic.then hN) 4 88 (.int .i64 (i12 : Int)) (by kernel_rfl) (fun _ => by kernel_rfl) hS198 ?_
              refine WD.load (NoPanic.then hN) 3 44 (.pointer (some ⟨p, 0, none⟩)) (.slice A1 L.length c1) 87 (by kernel_rfl) (by kernel_rfl) (fun _ hS_ => run_ld (Fr.has hS_ (hC197.get 0 rfl) (hC197.notin 0 0 rfl rfl)) rfl) hS198 ?_
              refine WD.sem 5 (Instr.loadAt 34 (.pointer (some ⟨g50, 0, none⟩))) 89 (.agg #[.int .i64 e45.flow.proto, .int .u32 e45.flow.src, .int .i64 e45.flow.sport, .int .u32 e45.flow.dst, .int .i64 e45.flow.dport, .int .u32 e45.dip, .int .i64 e45.epoch, .bool e45.trusted, .bool true, .int .i64 now]) (by kernel_rfl) (by kernel_rfl) (run_ld (hC197.get 2 rfl) rfl) hS198 ?_
              refine WD.index (NoPanic.then hN) 6 A1 L.length c1 90 .i64 (i12 : Int) b47 0 i12 10 (by kernel_rfl) (by kernel_rfl) hA48 (by omega) (by omega) (i12 * 10) (by first | (simp; done) | omega) hS198 ?_
              obtain ⟨w204, hr205, hF206, ho208, hC207⟩ := stoE_run Try.prog cellsE_len hC197 0 hA48 rfl ho199 i12 0 (x := e45) he46 (⟨e45.flow, e45.dip, e45.epoch, e45.trusted, true, now⟩ : Ent) [.int .i64 e45.flow.proto, .int .u32 e45.flow.src, .int .i64 e45.flow.sport, .int .u32 e45.flow.dst, .int .i64 e45.flow.dport, .int .u32 e45.dip, .int .i64 e45.epoch, .bool e45.trusted, .bool true, .int .i64 now] rfl 34 (.agg #[.int .i64 e45.flow.proto, .int .u32 e45.flow.src, .int .i64 e45.flow.sport, .int .u32 e45.flow.dst, .int .i64 e45.flow.dport, .int .u32 e45.dip, .int .i64 e45.epoch, .bool e45.trusted, .bool true, .int .i64 now]) (i12 * 10) rfl rfl rfl (by first | rfl | simp [Nat.add_assoc])
              have hS209 := hS198.trans hF206 (fun x_ hx_ => .inl hx_)
              refine WD.semU 7 (Instr.storeAt 34 (.pointer (some ⟨b47, i12 * 10, none⟩)) (.agg #[.int .i64 e45.flow.proto, .int .u32 e45.flow.src, .int .i64 e45.flow.sport, .int .u32 e45.flow.dst, .int .i64 e45.flow.dport, .int .u32 e45.dip, .int .i64 e45.epoch, .bool e45.trusted, .bool true, .int .i64 now])) (by kernel_rfl) (by kernel_rfl) hr205 hS209 ?_
              refine WD.done (by kernel_rfl) ?_
              refine QX.then_normal (hK194 _ _ ?_)
              refine WC.seq (fun K210 hK211 => ?_)
              refine WC.region ?_
              refine WL.runs 1 [(8, .bool true)] (fun _ => by kernel_rfl) ?_
              refine WL.done rfl ?_
              refine QX.then_normal (hK211 _ _ ?_)
              refine WC.ret ?_
              refine (hret _ _ _ rfl ?_).1
              clear hN hret hret' hK211 hK194 hK147 hK145 hK139 hK87 hK85 hK78 hK76 hK74 hK70 hK63 hK44 hK34 hK32 hK11 hK2
              have hte_ : touchE L tr e45 f flags now = (⟨e45.flow, e45.dip, e45.epoch, e45.trusted, true, now⟩ : Ent) := by unfold touchE; simp [hx14, t148, t148b, t40, t40b, t71, t71b, t72, t72b, t88, t88b]
              have hown_ := ho208
              rw [← hte_] at hown_
              exact ⟨_, true, _, rfl, hC207.fr, df_mk hC207 0 0 rfl rfl hown_, fun x_ hx_ => (List.mem_cons.1 hx_).elim (fun e_ => by subst e_; exact .inl List.mem_cons_self) (fun h_ => hC207.ownF _ (List.mem_of_getElem? (show _[0]? = some (blk (.slice A1 L.length c1)) from rfl)) x_ h_), .some _ _ t40 he46 (by subst x13; exact hfx15)⟩
        · -- (Go.bits .and .i64 flags 1) = 1: false
          have t72 : ¬ ((Go.bits .and .i64 flags 1) = 1) := by simpa using t72b
          refine WL.runs 6 [(11, .bool ((Go.bits .and .i64 flags 4) == 4)), (46, .bool ((Go.bits .and .i64 flags 4) == 4)), (45, .bool ((Go.bits .and .i64 flags 4) == 4)), (44, .bool ((Go.bits .and .i64 flags 4) == 4)), (43, .int .i64 (Go.bits .and .i64 flags 4)), (42, .int .i64 flags)] (fun _ => by kernel_rfl) ?_
          refine WL.done rfl ?_
          refine QX.then_normal (hK70 _ _ ?_)
          refine WC.seq (fun K212 hK213 => ?_)
          refine WC.region ?_
          refine WL.runs 1 [(47, .pointer (some ⟨g3, 0, none⟩))] (fun _ => by kernel_rfl) ?_
          refine WL.load 3 (.pointer (some ⟨g3, 0, none⟩)) (.int .i64 f.proto) 48 (by kernel_rfl) (run_ld (hC67.get 1 rfl) rfl) ?_
          refine WL.runs 2 [(50, .bool (f.proto == 6)), (49, .bool (f.proto == 6))] (fun _ => by kernel_rfl) ?_
          refine WL.know 50 (.bool (f.proto == 6)) (.bool true) rfl (congrArg Value.bool (by exact t71b)) ?_
          refine WL.runs 5 [(12, .bool ((Go.bits .and .i64 flags 2) == 2)), (54, .bool ((Go.bits .and .i64 flags 2) == 2)), (53, .bool ((Go.bits .and .i64 flags 2) == 2)), (52, .int .i64 (Go.bits .and .i64 flags 2)), (51, .int .i64 flags)] (fun _ => by kernel_rfl) ?_
          refine WL.done rfl ?_
          refine QX.then_normal (hK213 _ _ ?_)
          refine WC.seq (fun K214 hK215 => ?_)
          refine WC.seq (fun K216 hK217 => ?_)
          refine WC.region ?_
          refine WL.runs 1 [(55, .bool ((Go.bits .and .i64 flags 4) == 4))] (fun _ => by kernel_rfl) ?_
          refine WL.done rfl ?_
          refine QX.then_normal (hK217 _ _ ?_)
          refine WC.test_at 55 ((Go.bits .and .i64 flags 4) == 4) rfl (fun t218b => ?_) (fun t218b => ?_)
          · -- (Go.bits .and .i64 flags 4) = 4: true
            have t218 : (Go.bits .and .i64 flags 4) = 4 := by simpa using t218b
            refine WC.cond_true rfl ?_
            refine WC.region ?_
            refine WL.runs 1 [(56, .pointer (some ⟨g50, 8, none⟩))] (fun _ => by kernel_rfl) ?_
            refine WL.storeM (c' := #[.int .i64 e45.flow.proto, .int .u32 e45.flow.src, .int .i64 e45.flow.sport, .int .u32 e45.flow.dst, .int .i64 e45.flow.dport, .int .u32 e45.dip, .int .i64 e45.epoch, .bool e45.trusted, .bool true, .int .i64 now]) hC67 2 4 g50 8 (.bool true) (by kernel_rfl) rfl (by kernel_rfl) (fun w219 hF221 hC222 => ?_)
            have ho223 := own_fr ho68 hF221 (hC67.apartM 0 2 rfl rfl)
            refine WL.done rfl ?_
            refine QX.then_normal (hK215 _ _ ?_)
            refine WC.seq (fun K224 hK225 => ?_)
            refine WC.seq (fun K226 hK227 => ?_)
            refine WC.region ?_
            refine WL.runs 2 [(58, .bool ((Go.bits .and .i64 flags 2) == 2)), (57, .bool ((Go.bits .and .i64 flags 2) == 2))] (fun _ => by kernel_rfl) ?_
            refine WL.test_at 58 ((Go.bits .and .i64 flags 2) == 2) rfl (fun t228b => ?_) (fun t228b => ?_)
            · -- (Go.bits .and .i64 flags 2) = 2: true
              have t228 : (Go.bits .and .i64 flags 2) = 2 := by simpa using t228b
              refine WL.runs 3 [(61, .bool (!((Go.bits .and .i64 flags 4) == 4))), (60, .bool (!((Go.bits .and .i64 flags 4) == 4))), (59, .bool ((Go.bits .and .i64 flags 4) == 4))] (fun _ => by kernel_rfl) ?_
              refine WL.done rfl ?_
              refine QX.then_normal (hK227 _ _ ?_)
              refine WC.know 61 (.bool (!((Go.bits .and .i64 flags 4) == 4))) (.bool false) rfl (congrArg Value.bool (by rw [t218b]; rfl)) ?_
              refine WC.cond_false rfl ?_
              refine WC.skip ?_
              refine QX.then_normal (hK225 _ _ ?_)
              refine WC.seq (fun K229 hK230 => ?_)
              refine WC.region ?_
              refine WL.runs 1 [(64, .pointer (some ⟨p, 0, none⟩))] (fun _ => by kernel_rfl) ?_
              refine WL.call rfl rfl rfl rfl rfl (by kernel_rfl) (RLen_ct _ p L tr un w219 (df_mk hC222 0 0 rfl rfl ho223)) ?_
              rintro _ w232 ⟨rfl, hF231⟩
              refine ⟨_, rfl, ?_⟩
              have hC233 := hC222.call hF231
              have ho234 := own_fr ho223 hF231 (by simp)
              refine WL.runs 5 [(14, .int .i64 ((L.length : Int) - cntE L)), (13, .int .i64 (cntE L : Int)), (67, .int .i64 ((L.length : Int) - cntE L)), (66, .int .i64 (cntE L : Int)), (63, .tuple #[.int .i64 (cntE L : Int), .int .i64 ((L.length : Int) - cntE L)])] (fun _ => by kernel_rfl) ?_
              refine WL.done rfl ?_
              refine QX.then_normal (hK230 _ _ ?_)
              refine WC.seq (fun K235 hK236 => ?_)
              refine WC.seq (fun K237 hK238 => ?_)
              refine WC.region ?_
              refine WL.runs 1 [(68, .pointer (some ⟨g50, 7, none⟩))] (fun _ => by kernel_rfl) ?_
              refine WL.load 4 (.pointer (some ⟨g50, 7, none⟩)) (.bool e45.trusted) 69 (by kernel_rfl) (run_ld (hC233.get 2 rfl) rfl) ?_
              refine WL.runs 2 [(71, .bool !e45.trusted), (70, .bool !e45.trusted)] (fun _ => by kernel_rfl) ?_
              refine WL.test_at 71 (!e45.trusted) rfl (fun t239b => ?_) (fun t239b => ?_)
              · -- !e45.trusted = true: true
                have t239 : e45.trusted = false := by first | (simpa only [Bool.not_eq_true', Bool.not_eq_false'] using t239b) | simpa using t239b
                refine WL.runs 4 [(75, .bool (!((Go.bits .and .i64 flags 2) == 2))), (74, .bool (!((Go.bits .and .i64 flags 2) == 2))), (73, .bool (!((Go.bits .and .i64 flags 2) == 2))), (72, .bool ((Go.bits .and .i64 flags 2) == 2))] (fun _ => by kernel_rfl) ?_
                refine WL.know 75 (.bool (!((Go.bits .and .i64 flags 2) == 2))) (.bool false) rfl (congrArg Value.bool (by rw [t228b]; rfl)) ?_
                refine WL.runs 7 [(82, .bool false), (81, undef), (80, undef), (79, undef), (78, undef), (77, undef), (76, undef)] (fun _ => by kernel_rfl) ?_
                refine WL.done rfl ?_
                refine QX.then_normal (hK238 _ _ ?_)
                refine WC.cond_false rfl ?_
                refine WC.skip ?_
                refine QX.then_normal (hK236 _ _ ?_)
                refine WC.seq (fun K240 hK241 => ?_)
                refine WC.drawC hC233 (blk (.slice A1 L.length c1)) (by kernel_rfl) (fun w242 hF243 hC244 hS245 => ?_)
                have ho246 := own_fr ho234 hF243 (by simp)
                refine WD.pure (NoPanic.then hN) 0 84 (.pointer (some ⟨p, 0, none⟩)) (by kernel_rfl) (fun _ => by kernel_rfl) hS245 ?_
                refine WD.pure (NoPanic.then hN) 1 85 (.pointer (some ⟨p, 0, none⟩)) (by kernel_rfl) (fun _ => by kernel_rfl) hS245 ?_
                refine WD.pure (NoPanic.then hN) 2 86 (.pointer (some ⟨p, 0, none⟩)) (by kernel_rfl) (fun _ => by kernel_rfl) hS245 ?_
                refine WD.pure (NoPanic.then hN) 4 88 (.int .i64 (i12 : Int)) (by kernel_rfl) (fun _ => by kernel_rfl) hS245 ?_
                refine WD.load (NoPanic.then hN) 3 44 (.pointer (some ⟨p, 0, none⟩)) (.slice A1 L.length c1) 87 (by kernel_rfl) (by kernel_rfl) (fun _ hS_ => run_ld (Fr.has hS_ (hC244.get 0 rfl) (hC244.notin 0 0 rfl rfl)) rfl) hS245 ?_
                refine WD.sem 5 (Instr.loadAt 34 (.pointer (some ⟨g50, 0, none⟩))) 89 (.agg #[.int .i64 e45.flow.proto, .int .u32 e45.flow.src, .int .i64 e45.flow.sport, .int .u32 e45.flow.dst, .int .i64 e45.flow.dport, .int .u32 e45.dip, .int .i64 e45.epoch, .bool e45.trusted, .bool true, .int .i64 now]) (by kernel_rfl) (by kernel_rfl) (run_ld (hC244.get 2 rfl) rfl) hS245 ?_
                refine WD.index (NoPanic.then hN) 6 A1 L.length c1 90 .i64 (i12 : Int) b47 0 i12 10 (by kernel_rfl) (by kernel_rfl) hA48 (by omega) (by omega) (i12 * 10) (by first | (simp; done) | omega) hS245 ?_
                obtain ⟨w251, hr252, hF253, ho255, hC254⟩ := stoE_run Try.prog cellsE_len hC244 0 hA48 rfl ho246 i12 0 (x := e45) he46 (⟨e45.flow, e45.dip, e45.epoch, e45.trusted, true, now⟩ : Ent) [.int .i64 e45.flow.proto, .int .u32 e45.flow.src, .int .i64 e45.flow.sport, .int .u32 e45.flow.dst, .int .i64 e45.flow.dport, .int .u32 e45.dip, .int .i64 e45.epoch, .bool e45.trusted, .bool true, .int .i64 now] rfl 34 (.agg #[.int .i64 e45.flow.proto, .int .u32 e45.flow.src, .int .i64 e45.flow.sport, .int .u32 e45.flow.dst, .int .i64 e45.flow.dport, .int .u32 e45.dip, .int .i64 e45.epoch, .bool e45.trusted, .bool true, .int .i64 now]) (i12 * 10) rfl rfl rfl (by first | rfl | simp [Nat.add_assoc])
                have hS256 := hS245.trans hF253 (fun x_ hx_ => .inl hx_)
                refine WD.semU 7 (Instr.storeAt 34 (.pointer (some ⟨b47, i12 * 10, none⟩)) (.agg #[.int .i64 e45.flow.proto, .int .u32 e45.flow.src, .int .i64 e45.flow.sport, .int .u32 e45.flow.dst, .int .i64 e45.flow.dport, .int .u32 e45.dip, .int .i64 e45.epoch, .bool e45.trusted, .bool true, .int .i64 now])) (by kernel_rfl) (by kernel_rfl) hr252 hS256 ?_
                refine WD.done (by kernel_rfl) ?_
                refine QX.then_normal (hK241 _ _ ?_)
                refine WC.seq (fun K257 hK258 => ?_)
                refine WC.region ?_
                refine WL.runs 1 [(8, .bool true)] (fun _ => by kernel_rfl) ?_
                refine WL.done rfl ?_
                refine QX.then_normal (hK258 _ _ ?_)
                refine WC.ret ?_
                refine (hret _ _ _ rfl ?_).1
                clear hN hret hret' hK258 hK241 hK238 hK236 hK230 hK227 hK225 hK217 hK215 hK213 hK70 hK63 hK44 hK34 hK32 hK11 hK2
                have hte_ : touchE L tr e45 f flags now = (⟨e45.flow, e45.dip, e45.epoch, e45.trusted, true, now⟩ : Ent) := by unfold touchE; simp [hx14, t218, t218b, t228, t228b, t239, t239b, t40, t40b, t71, t71b, t72, t72b]
                have hown_ := ho255
                rw [← hte_] at hown_
                exact ⟨_, true, _, rfl, hC254.fr, df_mk hC254 0 0 rfl rfl hown_, fun x_ hx_ => (List.mem_cons.1 hx_).elim (fun e_ => by subst e_; exact .inl List.mem_cons_self) (fun h_ => hC254.ownF _ (List.mem_of_getElem? (show _[0]? = some (blk (.slice A1 L.length c1)) from rfl)) x_ h_), .some _ _ t40 he46 (by subst x13; exact hfx15)⟩
              · -- !e45.trusted = true: false
                have t239 : e45.trusted = true := by first | (simpa only [Bool.not_eq_true', Bool.not_eq_false'] using t239b) | simpa using t239b
                refine WL.runs 11 [(82, .bool false), (81, undef), (80, undef), (79, undef), (78, undef), (77, undef), (76, undef), (75, .bool false), (74, .bool false), (73, undef), (72, undef)] (fun _ => by kernel_rfl) ?_
                refine WL.done rfl ?_
                refine QX.then_normal (hK238 _ _ ?_)
                refine WC.cond_false rfl ?_
                refine WC.skip ?_
                refine QX.then_normal (hK236 _ _ ?_)
                refine WC.seq (fun K259 hK260 => ?_)
                refine WC.drawC hC233 (blk (.slice A1 L.length c1)) (by kernel_rfl) (fun w261 hF262 hC263 hS264 => ?_)
                have ho265 := own_fr ho234 hF262 (by simp)
                refine WD.pure (NoPanic.then hN) 0 84 (.pointer (some ⟨p, 0, none⟩)) (by kernel_rfl) (fun _ => by kernel_rfl) hS264 ?_
                refine WD.pure (NoPanic.then hN) 1 85 (.pointer (some ⟨p, 0, none⟩)) (by kernel_rfl) (fun _ => by kernel_rfl) hS264 ?_
                refine WD.pure (NoPanic.then hN) 2 86 (.pointer (some ⟨p, 0, none⟩)) (by kernel_rfl) (fun _ => by kernel_rfl) hS264 ?_
                refine WD.pure (NoPanic.then hN) 4 88 (.int .i64 (i12 : Int)) (by kernel_rfl) (fun _ => by kernel_rfl) hS264 ?_
                refine WD.load (NoPanic.then hN) 3 44 (.pointer (some ⟨p, 0, none⟩)) (.slice A1 L.length c1) 87 (by kernel_rfl) (by kernel_rfl) (fun _ hS_ => run_ld (Fr.has hS_ (hC263.get 0 rfl) (hC263.notin 0 0 rfl rfl)) rfl) hS264 ?_
                refine WD.sem 5 (Instr.loadAt 34 (.pointer (some ⟨g50, 0, none⟩))) 89 (.agg #[.int .i64 e45.flow.proto, .int .u32 e45.flow.src, .int .i64 e45.flow.sport, .int .u32 e45.flow.dst, .int .i64 e45.flow.dport, .int .u32 e45.dip, .int .i64 e45.epoch, .bool e45.trusted, .bool true, .int .i64 now]) (by kernel_rfl) (by kernel_rfl) (run_ld (hC263.get 2 rfl) rfl) hS264 ?_
                refine WD.index (NoPanic.then hN) 6 A1 L.length c1 90 .i64 (i12 : Int) b47 0 i12 10 (by kernel_rfl) (by kernel_rfl) hA48 (by omega) (by omega) (i12 * 10) (by first | (simp; done) | omega) hS264 ?_
                obtain ⟨w270, hr271, hF272, ho274, hC273⟩ := stoE_run Try.prog cellsE_len hC263 0 hA48 rfl ho265 i12 0 (x := e45) he46 (⟨e45.flow, e45.dip, e45.epoch, e45.trusted, true, now⟩ : Ent) [.int .i64 e45.flow.proto, .int .u32 e45.flow.src, .int .i64 e45.flow.sport, .int .u32 e45.flow.dst, .int .i64 e45.flow.dport, .int .u32 e45.dip, .int .i64 e45.epoch, .bool e45.trusted, .bool true, .int .i64 now] rfl 34 (.agg #[.int .i64 e45.flow.proto, .int .u32 e45.flow.src, .int .i64 e45.flow.sport, .int .u32 e45.flow.dst, .int .i64 e45.flow.dport, .int .u32 e45.dip, .int .i64 e45.epoch, .bool e45.trusted, .bool true, .int .i64 now]) (i12 * 10) rfl rfl rfl (by first | rfl | simp [Nat.add_assoc])
                have hS275 := hS264.trans hF272 (fun x_ hx_ => .inl hx_)
                refine WD.semU 7 (Instr.storeAt 34 (.pointer (some ⟨b47, i12 * 10, none⟩)) (.agg #[.int .i64 e45.flow.proto, .int .u32 e45.flow.src, .int .i64 e45.flow.sport, .int .u32 e45.flow.dst, .int .i64 e45.flow.dport, .int .u32 e45.dip, .int .i64 e45.epoch, .bool e45.trusted, .bool true, .int .i64 now])) (by kernel_rfl) (by kernel_rfl) hr271 hS275 ?_
                refine WD.done (by kernel_rfl) ?_
                refine QX.then_normal (hK260 _ _ ?_)
                refine WC.seq (fun K276 hK277 => ?_)
                refine WC.region ?_
                refine WL.runs 1 [(8, .bool true)] (fun _ => by kernel_rfl) ?_
                refine WL.done rfl ?_
                refine QX.then_normal (hK277 _ _ ?_)
                refine WC.ret ?_
                refine (hret _ _ _ rfl ?_).1
                clear hN hret hret' hK277 hK260 hK238 hK236 hK230 hK227 hK225 hK217 hK215 hK213 hK70 hK63 hK44 hK34 hK32 hK11 hK2
                have hte_ : touchE L tr e45 f flags now = (⟨e45.flow, e45.dip, e45.epoch, e45.trusted, true, now⟩ : Ent) := by unfold touchE; simp [hx14, t218, t218b, t228, t228b, t239, t239b, t40, t40b, t71, t71b, t72, t72b]
                have hown_ := ho274
                rw [← hte_] at hown_
                exact ⟨_, true, _, rfl, hC273.fr, df_mk hC273 0 0 rfl rfl hown_, fun x_ hx_ => (List.mem_cons.1 hx_).elim (fun e_ => by subst e_; exact .inl List.mem_cons_self) (fun h_ => hC273.ownF _ (List.mem_of_getElem? (show _[0]? = some (blk (.slice A1 L.length c1)) from rfl)) x_ h_), .some _ _ t40 he46 (by subst x13; exact hfx15)⟩
            · -- (Go.bits .and .i64 flags 2) = 2: false
              have t228 : ¬ ((Go.bits .and .i64 flags 2) = 2) := by simpa using t228b
              refine WL.runs 3 [(61, .bool false), (60, undef), (59, undef)] (fun _ => by kernel_rfl) ?_
              refine WL.done rfl ?_
              refine QX.then_normal (hK227 _ _ ?_)
              refine WC.cond_false rfl ?_
              refine WC.skip ?_
              refine QX.then_normal (hK225 _ _ ?_)
              refine WC.seq (fun K278 hK279 => ?_)
              refine WC.region ?_
              refine WL.runs 1 [(64, .pointer (some ⟨p, 0, none⟩))] (fun _ => by kernel_rfl) ?_
              refine WL.call rfl rfl rfl rfl rfl (by kernel_rfl) (RLen_ct _ p L tr un w219 (df_mk hC222 0 0 rfl rfl ho223)) ?_
              rintro _ w281 ⟨rfl, hF280⟩
              refine ⟨_, rfl, ?_⟩
              have hC282 := hC222.call hF280
              have ho283 := own_fr ho223 hF280 (by simp)
              refine WL.runs 5 [(14, .int .i64 ((L.length : Int) - cntE L)), (13, .int .i64 (cntE L : Int)), (67, .int .i64 ((L.length : Int) - cntE L)), (66, .int .i64 (cntE L : Int)), (63, .tuple #[.int .i64 (cntE L : Int), .int .i64 ((L.length : Int) - cntE L)])] (fun _ => by kernel_rfl) ?_
              refine WL.done rfl ?_
              refine QX.then_normal (hK279 _ _ ?_)
              refine WC.seq (fun K284 hK285 => ?_)
              refine WC.seq (fun K286 hK287 => ?_)
              refine WC.region ?_
              refine WL.runs 1 [(68, .pointer (some ⟨g50, 7, none⟩))] (fun _ => by kernel_rfl) ?_
              refine WL.load 4 (.pointer (some ⟨g50, 7, none⟩)) (.bool e45.trusted) 69 (by kernel_rfl) (run_ld (hC282.get 2 rfl) rfl) ?_
              refine WL.runs 2 [(71, .bool !e45.trusted), (70, .bool !e45.trusted)] (fun _ => by kernel_rfl) ?_
              refine WL.test_at 71 (!e45.trusted) rfl (fun t288b => ?_) (fun t288b => ?_)
              · -- !e45.trusted = true: true
                have t288 : e45.trusted = false := by first | (simpa only [Bool.not_eq_true', Bool.not_eq_false'] using t288b) | simpa using t288b
                refine WL.runs 4 [(75, .bool (!((Go.bits .and .i64 flags 2) == 2))), (74, .bool (!((Go.bits .and .i64 flags 2) == 2))), (73, .bool (!((Go.bits .and .i64 flags 2) == 2))), (72, .bool ((Go.bits .and .i64 flags 2) == 2))] (fun _ => by kernel_rfl) ?_
                refine WL.know 75 (.bool (!((Go.bits .and .i64 flags 2) == 2))) (.bool true) rfl (congrArg Value.bool (by rw [t228b]; rfl)) ?_
                refine WL.runs 4 [(79, .pointer (some ⟨p, 1, none⟩)), (78, .pointer (some ⟨p, 0, none⟩)), (77, .pointer (some ⟨p, 0, none⟩)), (76, .int .i64 (cntE L : Int))] (fun _ => by kernel_rfl) ?_
                refine WL.load 3 (.pointer (some ⟨p, 1, none⟩)) (.int .i64 tr) 80 (by kernel_rfl) (run_ld (hC282.get 0 rfl) rfl) ?_
                refine WL.runs 2 [(82, .bool (decide ((cntE L : Int) < tr))), (81, .bool (decide ((cntE L : Int) < tr)))] (fun _ => by kernel_rfl) ?_
                refine WL.done rfl ?_
                refine QX.then_normal (hK287 _ _ ?_)
                refine WC.test_at 82 (decide ((cntE L : Int) < tr)) rfl (fun t289b => ?_) (fun t289b => ?_)
                · -- (cntE L : Int) < tr: true
                  have t289 : (cntE L : Int) < tr := by have q_ := of_decide_eq_true t289b; omega
                  refine WC.cond_true rfl ?_
                  refine WC.region ?_
                  refine WL.runs 1 [(83, .pointer (some ⟨g50, 7, none⟩))] (fun _ => by kernel_rfl) ?_
                  refine WL.storeM (c' := #[.int .i64 e45.flow.proto, .int .u32 e45.flow.src, .int .i64 e45.flow.sport, .int .u32 e45.flow.dst, .int .i64 e45.flow.dport, .int .u32 e45.dip, .int .i64 e45.epoch, .bool true, .bool true, .int .i64 now]) hC282 2 4 g50 7 (.bool true) (by kernel_rfl) rfl (by kernel_rfl) (fun w290 hF292 hC293 => ?_)
                  have ho294 := own_fr ho283 hF292 (hC282.apartM 0 2 rfl rfl)
                  refine WL.done rfl ?_
                  refine QX.then_normal (hK285 _ _ ?_)
                  refine WC.seq (fun K295 hK296 => ?_)
                  refine WC.drawC hC293 (blk (.slice A1 L.length c1)) (by kernel_rfl) (fun w297 hF298 hC299 hS300 => ?_)
                  have ho301 := own_fr ho294 hF298 (by simp)
                  refine WD.pure (NoPanic.then hN) 0 84 (.pointer (some ⟨p, 0, none⟩)) (by kernel_rfl) (fun _ => by kernel_rfl) hS300 ?_
                  refine WD.pure (NoPanic.then hN) 1 85 (.pointer (some ⟨p, 0, none⟩)) (by kernel_rfl) (fun _ => by kernel_rfl) hS300 ?_
                  refine WD.pure (NoPanic.then hN) 2 86 (.pointer (some ⟨p, 0, none⟩)) (by kernel_rfl) (fun _ => by kernel_rfl) hS300 ?_
                  refine WD.pure (NoPanic.then hN) 4 88 (.int .i64 (i12 : Int)) (by kernel_rfl) (fun _ => by kernel_rfl) hS300 ?_
                  refine WD.load (NoPanic.then hN) 3 44 (.pointer (some ⟨p, 0, none⟩)) (.slice A1 L.length c1) 87 (by kernel_rfl) (by kernel_rfl) (fun _ hS_ => run_ld (Fr.has hS_ (hC299.get 0 rfl) (hC299.notin 0 0 rfl rfl)) rfl) hS300 ?_
                  refine WD.sem 5 (Instr.loadAt 34 (.pointer (some ⟨g50, 0, none⟩))) 89 (.agg #[.int .i64 e45.flow.proto, .int .u32 e45.flow.src, .int .i64 e45.flow.sport, .int .u32 e45.flow.dst, .int .i64 e45.flow.dport, .int .u32 e45.dip, .int .i64 e45.epoch, .bool true, .bool true, .int .i64 now]) (by kernel_rfl) (by kernel_rfl) (run_ld (hC299.get 2 rfl) rfl) hS300 ?_
                  refine WD.index (NoPanic.then hN) 6 A1 L.length c1 90 .i64 (i12 : Int) b47 0 i12 10 (by kernel_rfl) (by kernel_rfl) hA48 (by omega) (by omega) (i12 * 10) (by first | (simp; done) | omega) hS300 ?_
                  obtain ⟨w306, hr307, hF308, ho310, hC309⟩ := stoE_run Try.prog cellsE_len hC299 0 hA48 rfl ho301 i12 0 (x := e45) he46 (⟨e45.flow, e45.dip, e45.epoch, true, true, now⟩ : Ent) [.int .i64 e45.flow.proto, .int .u32 e45.flow.src, .int .i64 e45.flow.sport, .int .u32 e45.flow.dst, .int .i64 e45.flow.dport, .int .u32 e45.dip, .int .i64 e45.epoch, .bool true, .bool true, .int .i64 now] rfl 34 (.agg #[.int .i64 e45.flow.proto, .int .u32 e45.flow.src, .int .i64 e45.flow.sport, .int .u32 e45.flow.dst, .int .i64 e45.flow.dport, .int .u32 e45.dip, .int .i64 e45.epoch, .bool true, .bool true, .int .i64 now]) (i12 * 10) rfl rfl rfl (by first | rfl | simp [Nat.add_assoc])
                  have hS311 := hS300.trans hF308 (fun x_ hx_ => .inl hx_)
                  refine WD.semU 7 (Instr.storeAt 34 (.pointer (some ⟨b47, i12 * 10, none⟩)) (.agg #[.int .i64 e45.flow.proto, .int .u32 e45.flow.src, .int .i64 e45.flow.sport, .int .u32 e45.flow.dst, .int .i64 e45.flow.dport, .int .u32 e45.dip, .int .i64 e45.epoch, .bool true, .bool true, .int .i64 now])) (by kernel_rfl) (by kernel_rfl) hr307 hS311 ?_
                  refine WD.done (by kernel_rfl) ?_
                  refine QX.then_normal (hK296 _ _ ?_)
                  refine WC.seq (fun K312 hK313 => ?_)
                  refine WC.region ?_
                  refine WL.runs 1 [(8, .bool true)] (fun _ => by kernel_rfl) ?_
                  refine WL.done rfl ?_
                  refine QX.then_normal (hK313 _ _ ?_)
                  refine WC.ret ?_
                  refine (hret _ _ _ rfl ?_).1
                  clear hN hret hret' hK313 hK296 hK287 hK285 hK279 hK227 hK225 hK217 hK215 hK213 hK70 hK63 hK44 hK34 hK32 hK11 hK2
                  have hte_ : touchE L tr e45 f flags now = (⟨e45.flow, e45.dip, e45.epoch, true, true, now⟩ : Ent) := by unfold touchE; simp [hx14, t218, t218b, t228, t228b, t288, t288b, t289, t289b, t40, t40b, t71, t71b, t72, t72b]
                  have hown_ := ho310
                  rw [← hte_] at hown_
                  exact ⟨_, true, _, rfl, hC309.fr, df_mk hC309 0 0 rfl rfl hown_, fun x_ hx_ => (List.mem_cons.1 hx_).elim (fun e_ => by subst e_; exact .inl List.mem_cons_self) (fun h_ => hC309.ownF _ (List.mem_of_getElem? (show _[0]? = some (blk (.slice A1 L.length c1)) from rfl)) x_ h_), .some _ _ t40 he46 (by subst x13; exact hfx15)⟩
                · -- (cntE L : Int) < tr: false
                  have t289 : tr ≤ (cntE L : Int) := by have q_ := of_decide_eq_false t289b; omega
                  refine WC.cond_false rfl ?_
                  refine WC.skip ?_
                  refine QX.then_normal (hK285 _ _ ?_)
                  refine WC.seq (fun K314 hK315 => ?_)
                  refine WC.drawC hC282 (blk (.slice A1 L.length c1)) (by kernel_rfl) (fun w316 hF317 hC318 hS319 => ?_)
                  have ho320 := own_fr ho283 hF317 (by simp)
                  refine WD.pure (NoPanic.then hN) 0 84 (.pointer (some ⟨p, 0, none⟩)) (by kernel_rfl) (fun _ => by kernel_rfl) hS319 ?_
                  refine WD.pure (NoPanic.then hN) 1 85 (.pointer (some ⟨p, 0, none⟩)) (by kernel_rfl) (fun _ => by kernel_rfl) hS319 ?_
                  refine WD.pure (NoPanic.then hN) 2 86 (.pointer (some ⟨p, 0, none⟩)) (by kernel_rfl) (fun _ => by kernel_rfl) hS319 ?_
                  refine WD.pure (NoPanic.then hN) 4 88 (.int .i64 (i12 : Int)) (by kernel_rfl) (fun _ => by kernel_rfl) hS319 ?_
                  refine WD.load (NoPanic.then hN) 3 44 (.pointer (some ⟨p, 0, none⟩)) (.slice A1 L.length c1) 87 (by kernel_rfl) (by kernel_rfl) (fun _ hS_ => run_ld (Fr.has hS_ (hC318.get 0 rfl) (hC318.notin 0 0 rfl rfl)) rfl) hS319 ?_
                  refine WD.sem 5 (Instr.loadAt 34 (.pointer (some ⟨g50, 0, none⟩))) 89 (.agg #[.int .i64 e45.flow.proto, .int .u32 e45.flow.src, .int .i64 e45.flow.sport, .int .u32 e45.flow.dst, .int .i64 e45.flow.dport, .int .u32 e45.dip, .int .i64 e45.epoch, .bool e45.trusted, .bool true, .int .i64 now]) (by kernel_rfl) (by kernel_rfl) (run_ld (hC318.get 2 rfl) rfl) hS319 ?_
                  refine WD.index (NoPanic.then hN) 6 A1 L.length c1 90 .i64 (i12 : Int) b47 0 i12 10 (by kernel_rfl) (by kernel_rfl) hA48 (by omega) (by omega) (i12 * 10) (by first | (simp; done) | omega) hS319 ?_
                  obtain ⟨w325, hr326, hF327, ho329, hC328⟩ := stoE_run Try.prog cellsE_len hC318 0 hA48 rfl ho320 i12 0 (x := e45) he46 (⟨e45.flow, e45.dip, e45.epoch, e45.trusted, true, now⟩ : Ent) [.int .i64 e45.flow.proto, .int .u32 e45.flow.src, .int .i64 e45.flow.sport, .int .u32 e45.flow.dst, .int .i64 e45.flow.dport, .int .u32 e45.dip, .int .i64 e45.epoch, .bool e45.trusted, .bool true, .int .i64 now] rfl 34 (.agg #[.int .i64 e45.flow.proto, .int .u32 e45.flow.src, .int .i64 e45.flow.sport, .int .u32 e45.flow.dst, .int .i64 e45.flow.dport, .int .u32 e45.dip, .int .i64 e45.epoch, .bool e45.trusted, .bool true, .int .i64 now]) (i12 * 10) rfl rfl rfl (by first | rfl | simp [Nat.add_assoc])
                  have hS330 := hS319.trans hF327 (fun x_ hx_ => .inl hx_)
                  refine WD.semU 7 (Instr.storeAt 34 (.pointer (some ⟨b47, i12 * 10, none⟩)) (.agg #[.int .i64 e45.flow.proto, .int .u32 e45.flow.src, .int .i64 e45.flow.sport, .int .u32 e45.flow.dst, .int .i64 e45.flow.dport, .int .u32 e45.dip, .int .i64 e45.epoch, .bool e45.trusted, .bool true, .int .i64 now])) (by kernel_rfl) (by kernel_rfl) hr326 hS330 ?_
                  refine WD.done (by kernel_rfl) ?_
                  refine QX.then_normal (hK315 _ _ ?_)
                  refine WC.seq (fun K331 hK332 => ?_)
                  refine WC.region ?_
                  refine WL.runs 1 [(8, .bool true)] (fun _ => by kernel_rfl) ?_
                  refine WL.done rfl ?_
                  refine QX.then_normal (hK332 _ _ ?_)
                  refine WC.ret ?_
                  refine (hret _ _ _ rfl ?_).1
                  clear hN hret hret' hK332 hK315 hK287 hK285 hK279 hK227 hK225 hK217 hK215 hK213 hK70 hK63 hK44 hK34 hK32 hK11 hK2
                  have hte_ : touchE L tr e45 f flags now = (⟨e45.flow, e45.dip, e45.epoch, e45.trusted, true, now⟩ : Ent) := by unfold touchE; simp [hx14, t218, t218b, t228, t228b, t288, t288b, t289, t289b, t40, t40b, t71, t71b, t72, t72b]
                  have hown_ := ho329
                  rw [← hte_] at hown_
                  exact ⟨_, true, _, rfl, hC328.fr, df_mk hC328 0 0 rfl rfl hown_, fun x_ hx_ => (List.mem_cons.1 hx_).elim (fun e_ => by subst e_; exact .inl List.mem_cons_self) (fun h_ => hC328.ownF _ (List.mem_of_getElem? (show _[0]? = some (blk (.slice A1 L.length c1)) from rfl)) x_ h_), .some _ _ t40 he46 (by subst x13; exact hfx15)⟩
              · -- !e45.trusted = true: false
                have t288 : e45.trusted = true := by first | (simpa only [Bool.not_eq_true', Bool.not_eq_false'] using t288b) | simpa using t288b
                refine WL.runs 11 [(82, .bool false), (81, undef), (80, undef), (79, undef), (78, undef), (77, undef), (76, undef), (75, .bool false), (74, .bool false), (73, undef), (72, undef)] (fun _ => by kernel_rfl) ?_
                refine WL.done rfl ?_
                refine QX.then_normal (hK287 _ _ ?_)
                refine WC.cond_false rfl ?_
                refine WC.skip ?_
                refine QX.then_normal (hK285 _ _ ?_)
                refine WC.seq (fun K333 hK334 => ?_)
                refine WC.drawC hC282 (blk (.slice A1 L.length c1)) (by kernel_rfl) (fun w335 hF336 hC337 hS338 => ?_)
                have ho339 := own_fr ho283 hF336 (by simp)
                refine WD.pure (NoPanic.then hN) 0 84 (.pointer (some ⟨p, 0, none⟩)) (by kernel_rfl) (fun _ => by kernel_rfl) hS338 ?_
                refine WD.pure (NoPanic.then hN) 1 85 (.pointer (some ⟨p, 0, none⟩)) (by kernel_rfl) (fun _ => by kernel_rfl) hS338 ?_
                refine WD.pure (NoPanic.then hN) 2 86 (.pointer (some ⟨p, 0, none⟩)) (by kernel_rfl) (fun _ => by kernel_rfl) hS338 ?_
                refine WD.pure (NoPanic.then hN) 4 88 (.int .i64 (i12 : Int)) (by kernel_rfl) (fun _ => by kernel_rfl) hS338 ?_
                refine WD.load (NoPanic.then hN) 3 44 (.pointer (some ⟨p, 0, none⟩)) (.slice A1 L.length c1) 87 (by kernel_rfl) (by kernel_rfl) (fun _ hS_ => run_ld (Fr.has hS_ (hC337.get 0 rfl) (hC337.notin 0 0 rfl rfl)) rfl) hS338 ?_
                refine WD.sem 5 (Instr.loadAt 34 (.pointer (some ⟨g50, 0, none⟩))) 89 (.agg #[.int .i64 e45.flow.proto, .int .u32 e45.flow.src, .int .i64 e45.flow.sport, .int .u32 e45.flow.dst, .int .i64 e45.flow.dport, .int .u32 e45.dip, .int .i64 e45.epoch, .bool e45.trusted, .bool true, .int .i64 now]) (by kernel_rfl) (by kernel_rfl) (run_ld (hC337.get 2 rfl) rfl) hS338 ?_
                refine WD.index (NoPanic.then hN) 6 A1 L.length c1 90 .i64 (i12 : Int) b47 0 i12 10 (by kernel_rfl) (by kernel_rfl) hA48 (by omega) (by omega) (i12 * 10) (by first | (simp; done) | omega) hS338 ?_
                obtain ⟨w344, hr345, hF346, ho348, hC347⟩ := stoE_run Try.prog cellsE_len hC337 0 hA48 rfl ho339 i12 0 (x := e45) he46 (⟨e45.flow, e45.dip, e45.epoch, e45.trusted, true, now⟩ : Ent) [.int .i64 e45.flow.proto, .int .u32 e45.flow.src, .int .i64 e45.flow.sport, .int .u32 e45.flow.dst, .int .i64 e45.flow.dport, .int .u32 e45.dip, .int .i64 e45.epoch, .bool e45.trusted, .bool true, .int .i64 now] rfl 34 (.agg #[.int .i64 e45.flow.proto, .int .u32 e45.flow.src, .int .i64 e45.flow.sport, .int .u32 e45.flow.dst, .int .i64 e45.flow.dport, .int .u32 e45.dip, .int .i64 e45.epoch, .bool e45.trusted, .bool true, .int .i64 now]) (i12 * 10) rfl rfl rfl (by first | rfl | simp [Nat.add_assoc])
                have hS349 := hS338.trans hF346 (fun x_ hx_ => .inl hx_)
                refine WD.semU 7 (Instr.storeAt 34 (.pointer (some ⟨b47, i12 * 10, none⟩)) (.agg #[.int .i64 e45.flow.proto, .int .u32 e45.flow.src, .int .i64 e45.flow.sport, .int .u32 e45.flow.dst, .int .i64 e45.flow.dport, .int .u32 e45.dip, .int .i64 e45.epoch, .bool e45.trusted, .bool true, .int .i64 now])) (by kernel_rfl) (by kernel_rfl) hr345 hS349 ?_
                refine WD.done (by kernel_rfl) ?_
                refine QX.then_normal (hK334 _ _ ?_)
                refine WC.seq (fun K350 hK351 => ?_)
                refine WC.region ?_
                refine WL.runs 1 [(8, .bool true)] (fun _ => by kernel_rfl) ?_
                refine WL.done rfl ?_
                refine QX.then_normal (hK351 _ _ ?_)
                refine WC.ret ?_
                refine (hret _ _ _ rfl ?_).1
                clear hN hret hret' hK351 hK334 hK287 hK285 hK279 hK227 hK225 hK217 hK215 hK213 hK70 hK63 hK44 hK34 hK32 hK11 hK2
                have hte_ : touchE L tr e45 f flags now = (⟨e45.flow, e45.dip, e45.epoch, e45.trusted, true, now⟩ : Ent) := by unfold touchE; simp [hx14, t218, t218b, t228, t228b, t288, t288b, t40, t40b, t71, t71b, t72, t72b]
                have hown_ := ho348
                rw [← hte_] at hown_
                exact ⟨_, true, _, rfl, hC347.fr, df_mk hC347 0 0 rfl rfl hown_, fun x_ hx_ => (List.mem_cons.1 hx_).elim (fun e_ => by subst e_; exact .inl List.mem_cons_self) (fun h_ => hC347.ownF _ (List.mem_of_getElem? (show _[0]? = some (blk (.slice A1 L.length c1)) from rfl)) x_ h_), .some _ _ t40 he46 (by subst x13; exact hfx15)⟩
          · -- (Go.bits .and .i64 flags 4) = 4: false
            have t218 : ¬ ((Go.bits .and .i64 flags 4) = 4) := by simpa using t218b
            refine WC.cond_false rfl ?_
            refine WC.skip ?_
            refine QX.then_normal (hK215 _ _ ?_)
            refine WC.seq (fun K352 hK353 => ?_)
            refine WC.seq (fun K354 hK355 => ?_)
            refine WC.region ?_
            refine WL.runs 2 [(58, .bool ((Go.bits .and .i64 flags 2) == 2)), (57, .bool ((Go.bits .and .i64 flags 2) == 2))] (fun _ => by kernel_rfl) ?_
            refine WL.test_at 58 ((Go.bits .and .i64 flags 2) == 2) rfl (fun t356b => ?_) (fun t356b => ?_)
            · -- (Go.bits .and .i64 flags 2) = 2: true
              have t356 : (Go.bits .and .i64 flags 2) = 2 := by simpa using t356b
              refine WL.runs 3 [(61, .bool (!((Go.bits .and .i64 flags 4) == 4))), (60, .bool (!((Go.bits .and .i64 flags 4) == 4))), (59, .bool ((Go.bits .and .i64 flags 4) == 4))] (fun _ => by kernel_rfl) ?_
              refine WL.done rfl ?_
              refine QX.then_normal (hK355 _ _ ?_)
              refine WC.know 61 (.bool (!((Go.bits .and .i64 flags 4) == 4))) (.bool true) rfl (congrArg Value.bool (by rw [t218b]; rfl)) ?_
              refine WC.cond_true rfl ?_
              refine WC.region ?_
              refine WL.runs 1 [(62, .pointer (some ⟨g50, 8, none⟩))] (fun _ => by kernel_rfl) ?_
              refine WL.storeM (c' := #[.int .i64 e45.flow.proto, .int .u32 e45.flow.src, .int .i64 e45.flow.sport, .int .u32 e45.flow.dst, .int .i64 e45.flow.dport, .int .u32 e45.dip, .int .i64 e45.epoch, .bool e45.trusted, .bool false, .int .i64 now]) hC67 2 4 g50 8 (.bool false) (by kernel_rfl) rfl (by kernel_rfl) (fun w357 hF359 hC360 => ?_)
              have ho361 := own_fr ho68 hF359 (hC67.apartM 0 2 rfl rfl)
              refine WL.done rfl ?_
              refine QX.then_normal (hK353 _ _ ?_)
              refine WC.seq (fun K362 hK363 => ?_)
              refine WC.region ?_
              refine WL.runs 1 [(64, .pointer (some ⟨p, 0, none⟩))] (fun _ => by kernel_rfl) ?_
              refine WL.call rfl rfl rfl rfl rfl (by kernel_rfl) (RLen_ct _ p L tr un w357 (df_mk hC360 0 0 rfl rfl ho361)) ?_
              rintro _ w365 ⟨rfl, hF364⟩
              refine ⟨_, rfl, ?_⟩
              have hC366 := hC360.call hF364
              have ho367 := own_fr ho361 hF364 (by simp)
              refine WL.runs 5 [(14, .int .i64 ((L.length : Int) - cntE L)), (13, .int .i64 (cntE L : Int)), (67, .int .i64 ((L.length : Int) - cntE L)), (66, .int .i64 (cntE L : Int)), (63, .tuple #[.int .i64 (cntE L : Int), .int .i64 ((L.length : Int) - cntE L)])] (fun _ => by kernel_rfl) ?_
              refine WL.done rfl ?_
              refine QX.then_normal (hK363 _ _ ?_)
              refine WC.seq (fun K368 hK369 => ?_)
              refine WC.seq (fun K370 hK371 => ?_)
              refine WC.region ?_
              refine WL.runs 1 [(68, .pointer (some ⟨g50, 7, none⟩))] (fun _ => by kernel_rfl) ?_
              refine WL.load 4 (.pointer (some ⟨g50, 7, none⟩)) (.bool e45.trusted) 69 (by kernel_rfl) (run_ld (hC366.get 2 rfl) rfl) ?_
              refine WL.runs 2 [(71, .bool !e45.trusted), (70, .bool !e45.trusted)] (fun _ => by kernel_rfl) ?_
              refine WL.test_at 71 (!e45.trusted) rfl (fun t372b => ?_) (fun t372b => ?_)
              · -- !e45.trusted = true: true
                have t372 : e45.trusted = false := by first | (simpa only [Bool.not_eq_true', Bool.not_eq_false'] using t372b) | simpa using t372b
                refine WL.runs 4 [(75, .bool (!((Go.bits .and .i64 flags 2) == 2))), (74, .bool (!((Go.bits .and .i64 flags 2) == 2))), (73, .bool (!((Go.bits .and .i64 flags 2) == 2))), (72, .bool ((Go.bits .and .i64 flags 2) == 2))] (fun _ => by kernel_rfl) ?_
                refine WL.know 75 (.bool (!((Go.bits .and .i64 flags 2) == 2))) (.bool false) rfl (congrArg Value.bool (by rw [t356b]; rfl)) ?_
                refine WL.runs 7 [(82, .bool false), (81, undef), (80, undef), (79, undef), (78, undef), (77, undef), (76, undef)] (fun _ => by kernel_rfl) ?_
                refine WL.done rfl ?_
                refine QX.then_normal (hK371 _ _ ?_)
                refine WC.cond_false rfl ?_
                refine WC.skip ?_
                refine QX.then_normal (hK369 _ _ ?_)
                refine WC.seq (fun K373 hK374 => ?_)
                refine WC.drawC hC366 (blk (.slice A1 L.length c1)) (by kernel_rfl) (fun w375 hF376 hC377 hS378 => ?_)
                have ho379 := own_fr ho367 hF376 (by simp)
                refine WD.pure (NoPanic.then hN) 0 84 (.pointer (some ⟨p, 0, none⟩)) (by kernel_rfl) (fun _ => by kernel_rfl) hS378 ?_
                refine WD.pure (NoPanic.then hN) 1 85 (.pointer (some ⟨p, 0, none⟩)) (by kernel_rfl) (fun _ => by kernel_rfl) hS378 ?_
                refine WD.pure (NoPanic.then hN) 2 86 (.pointer (some ⟨p, 0, none⟩)) (by kernel_rfl) (fun _ => by kernel_rfl) hS378 ?_
                refine WD.pure (NoPanic.then hN) 4 88 (.int .i64 (i12 : Int)) (by kernel_rfl) (fun _ => by kernel_rfl) hS378 ?_
                refine WD.load (NoPanic.then hN) 3 44 (.pointer (some ⟨p, 0, none⟩)) (.slice A1 L.length c1) 87 (by kernel_rfl) (by kernel_rfl) (fun _ hS_ => run_ld (Fr.has hS_ (hC377.get 0 rfl) (hC377.notin 0 0 rfl rfl)) rfl) hS378 ?_
                refine WD.sem 5 (Instr.loadAt 34 (.pointer (some ⟨g50, 0, none⟩))) 89 (.agg #[.int .i64 e45.flow.proto, .int .u32 e45.flow.src, .int .i64 e45.flow.sport, .int .u32 e45.flow.dst, .int .i64 e45.flow.dport, .int .u32 e45.dip, .int .i64 e45.epoch, .bool e45.trusted, .bool false, .int .i64 now]) (by kernel_rfl) (by kernel_rfl) (run_ld (hC377.get 2 rfl) rfl) hS378 ?_
                refine WD.index (NoPanic.then hN) 6 A1 L.length c1 90 .i64 (i12 : Int) b47 0 i12 10 (by kernel_rfl) (by kernel_rfl) hA48 (by omega) (by omega) (i12 * 10) (by first | (simp; done) | omega) hS378 ?_
                obtain ⟨w384, hr385, hF386, ho388, hC387⟩ := stoE_run Try.prog cellsE_len hC377 0 hA48 rfl ho379 i12 0 (x := e45) he46 (⟨e45.flow, e45.dip, e45.epoch, e45.trusted, false, now⟩ : Ent) [.int .i64 e45.flow.proto, .int .u32 e45.flow.src, .int .i64 e45.flow.sport, .int .u32 e45.flow.dst, .int .i64 e45.flow.dport, .int .u32 e45.dip, .int .i64 e45.epoch, .bool e45.trusted, .bool false, .int .i64 now] rfl 34 (.agg #[.int .i64 e45.flow.proto, .int .u32 e45.flow.src, .int .i64 e45.flow.sport, .int .u32 e45.flow.dst, .int .i64 e45.flow.dport, .int .u32 e45.dip, .int .i64 e45.epoch, .bool e45.trusted, .bool false, .int .i64 now]) (i12 * 10) rfl rfl rfl (by first | rfl | simp [Nat.add_assoc])
                have hS389 := hS378.trans hF386 (fun x_ hx_ => .inl hx_)
                refine WD.semU 7 (Instr.storeAt 34 (.pointer (some ⟨b47, i12 * 10, none⟩)) (.agg #[.int .i64 e45.flow.proto, .int .u32 e45.flow.src, .int .i64 e45.flow.sport, .int .u32 e45.flow.dst, .int .i64 e45.flow.dport, .int .u32 e45.dip, .int .i64 e45.epoch, .bool e45.trusted, .bool false, .int .i64 now])) (by kernel_rfl) (by kernel_rfl) hr385 hS389 ?_
                refine WD.done (by kernel_rfl) ?_
                refine QX.then_normal (hK374 _ _ ?_)
                refine WC.seq (fun K390 hK391 => ?_)
                refine WC.region ?_
                refine WL.runs 1 [(8, .bool true)] (fun _ => by kernel_rfl) ?_
                refine WL.done rfl ?_
                refine QX.then_normal (hK391 _ _ ?_)
                refine WC.ret ?_
                refine (hret _ _ _ rfl ?_).1
                clear hN hret hret' hK391 hK374 hK371 hK369 hK363 hK355 hK353 hK217 hK215 hK213 hK70 hK63 hK44 hK34 hK32 hK11 hK2
                have hte_ : touchE L tr e45 f flags now = (⟨e45.flow, e45.dip, e45.epoch, e45.trusted, false, now⟩ : Ent) := by unfold touchE; simp [hx14, t218, t218b, t356, t356b, t372, t372b, t40, t40b, t71, t71b, t72, t72b]
                have hown_ := ho388
                rw [← hte_] at hown_
                exact ⟨_, true, _, rfl, hC387.fr, df_mk hC387 0 0 rfl rfl hown_, fun x_ hx_ => (List.mem_cons.1 hx_).elim (fun e_ => by subst e_; exact .inl List.mem_cons_self) (fun h_ => hC387.ownF _ (List.mem_of_getElem? (show _[0]? = some (blk (.slice A1 L.length c1)) from rfl)) x_ h_), .some _ _ t40 he46 (by subst x13; exact hfx15)⟩
              · -- !e45.trusted = true: false
                have t372 : e45.trusted = true := by first | (simpa only [Bool.not_eq_true', Bool.not_eq_false'] using t372b) | simpa using t372b
                refine WL.runs 11 [(82, .bool false), (81, undef), (80, undef), (79, undef), (78, undef), (77, undef), (76, undef), (75, .bool false), (74, .bool false), (73, undef), (72, undef)] (fun _ => by kernel_rfl) ?_
                refine WL.done rfl ?_
                refine QX.then_normal (hK371 _ _ ?_)
                refine WC.cond_false rfl ?_
                refine WC.skip ?_
                refine QX.then_normal (hK369 _ _ ?_)
                refine WC.seq (fun K392 hK393 => ?_)
                refine WC.drawC hC366 (blk (.slice A1 L.length c1)) (by kernel_rfl) (fun w394 hF395 hC396 hS397 => ?_)
                have ho398 := own_fr ho367 hF395 (by simp)
                refine WD.pure (NoPanic.then hN) 0 84 (.pointer (some ⟨p, 0, none⟩)) (by kernel_rfl) (fun _ => by kernel_rfl) hS397 ?_
                refine WD.pure (NoPanic.then hN) 1 85 (.pointer (some ⟨p, 0, none⟩)) (by kernel_rfl) (fun _ => by kernel_rfl) hS397 ?_
                refine WD.pure (NoPanic.then hN) 2 86 (.pointer (some ⟨p, 0, none⟩)) (by kernel_rfl) (fun _ => by kernel_rfl) hS397 ?_
                refine WD.pure (NoPanic.then hN) 4 88 (.int .i64 (i12 : Int)) (by kernel_rfl) (fun _ => by kernel_rfl) hS397 ?_
                refine WD.load (NoPanic.then hN) 3 44 (.pointer (some ⟨p, 0, none⟩)) (.slice A1 L.length c1) 87 (by kernel_rfl) (by kernel_rfl) (fun _ hS_ => run_ld (Fr.has hS_ (hC396.get 0 rfl) (hC396.notin 0 0 rfl rfl)) rfl) hS397 ?_
                refine WD.sem 5 (Instr.loadAt 34 (.pointer (some ⟨g50, 0, none⟩))) 89 (.agg #[.int .i64 e45.flow.proto, .int .u32 e45.flow.src, .int .i64 e45.flow.sport, .int .u32 e45.flow.dst, .int .i64 e45.flow.dport, .int .u32 e45.dip, .int .i64 e45.epoch, .bool e45.trusted, .bool false, .int .i64 now]) (by kernel_rfl) (by kernel_rfl) (run_ld (hC396.get 2 rfl) rfl) hS397 ?_
                refine WD.index (NoPanic.then hN) 6 A1 L.length c1 90 .i64 (i12 : Int) b47 0 i12 10 (by kernel_rfl) (by kernel_rfl) hA48 (by omega) (by omega) (i12 * 10) (by first | (simp; done) | omega) hS397 ?_
                obtain ⟨w403, hr404, hF405, ho407, hC406⟩ := stoE_run Try.prog cellsE_len hC396 0 hA48 rfl ho398 i12 0 (x := e45) he46 (⟨e45.flow, e45.dip, e45.epoch, e45.trusted, false, now⟩ : Ent) [.int .i64 e45.flow.proto, .int .u32 e45.flow.src, .int .i64 e45.flow.sport, .int .u32 e45.flow.dst, .int .i64 e45.flow.dport, .int .u32 e45.dip, .int .i64 e45.epoch, .bool e45.trusted, .bool false, .int .i64 now] rfl 34 (.agg #[.int .i64 e45.flow.proto, .int .u32 e45.flow.src, .int .i64 e45.flow.sport, .int .u32 e45.flow.dst, .int .i64 e45.flow.dport, .int .u32 e45.dip, .int .i64 e45.epoch, .bool e45.trusted, .bool false, .int .i64 now]) (i12 * 10) rfl rfl rfl (by first | rfl | simp [Nat.add_assoc])
                have hS408 := hS397.trans hF405 (fun x_ hx_ => .inl hx_)
                refine WD.semU 7 (Instr.storeAt 34 (.pointer (some ⟨b47, i12 * 10, none⟩)) (.agg #[.int .i64 e45.flow.proto, .int .u32 e45.flow.src, .int .i64 e45.flow.sport, .int .u32 e45.flow.dst, .int .i64 e45.flow.dport, .int .u32 e45.dip, .int .i64 e45.epoch, .bool e45.trusted, .bool false, .int .i64 now])) (by kernel_rfl) (by kernel_rfl) hr404 hS408 ?_
                refine WD.done (by kernel_rfl) ?_
                refine QX.then_normal (hK393 _ _ ?_)
                refine WC.seq (fun K409 hK410 => ?_)
                refine WC.region ?_
                refine WL.runs 1 [(8, .bool true)] (fun _ => by kernel_rfl) ?_
                refine WL.done rfl ?_
                refine QX.then_normal (hK410 _ _ ?_)
                refine WC.ret ?_
                refine (hret _ _ _ rfl ?_).1
                clear hN hret hret' hK410 hK393 hK371 hK369 hK363 hK355 hK353 hK217 hK215 hK213 hK70 hK63 hK44 hK34 hK32 hK11 hK2
                have hte_ : touchE L tr e45 f flags now = (⟨e45.flow, e45.dip, e45.epoch, e45.trusted, false, now⟩ : Ent) := by unfold touchE; simp [hx14, t218, t218b, t356, t356b, t372, t372b, t40, t40b, t71, t71b, t72, t72b]
                have hown_ := ho407
                rw [← hte_] at hown_
                exact ⟨_, true, _, rfl, hC406.fr, df_mk hC406 0 0 rfl rfl hown_, fun x_ hx_ => (List.mem_cons.1 hx_).elim (fun e_ => by subst e_; exact .inl List.mem_cons_self) (fun h_ => hC406.ownF _ (List.mem_of_getElem? (show _[0]? = some (blk (.slice A1 L.length c1)) from rfl)) x_ h_), .some _ _ t40 he46 (by subst x13; exact hfx15)⟩
            · -- (Go.bits .and .i64 flags 2) = 2: false
              have t356 : ¬ ((Go.bits .and .i64 flags 2) = 2) := by simpa using t356b
              refine WL.runs 3 [(61, .bool false), (60, undef), (59, undef)] (fun _ => by kernel_rfl) ?_
              refine WL.done rfl ?_
              refine QX.then_normal (hK355 _ _ ?_)
              refine WC.cond_false rfl ?_
              refine WC.skip ?_
              refine QX.then_normal (hK353 _ _ ?_)
              refine WC.seq (fun K411 hK412 => ?_)
              refine WC.region ?_
              refine WL.runs 1 [(64, .pointer (some ⟨p, 0, none⟩))] (fun _ => by kernel_rfl) ?_
              refine WL.call rfl rfl rfl rfl rfl (by kernel_rfl) (RLen_ct _ p L tr un w64 (df_mk hC67 0 0 rfl rfl ho68)) ?_
              rintro _ w414 ⟨rfl, hF413⟩
              refine ⟨_, rfl, ?_⟩
              have hC415 := hC67.call hF413
              have ho416 := own_fr ho68 hF413 (by simp)
              refine WL.runs 5 [(14, .int .i64 ((L.length : Int) - cntE L)), (13, .int .i64 (cntE L : Int)), (67, .int .i64 ((L.length : Int) - cntE L)), (66, .int .i64 (cntE L : Int)), (63, .tuple #[.int .i64 (cntE L : Int), .int .i64 ((L.length : Int) - cntE L)])] (fun _ => by kernel_rfl) ?_
              refine WL.done rfl ?_
              refine QX.then_normal (hK412 _ _ ?_)
              refine WC.seq (fun K417 hK418 => ?_)
              refine WC.seq (fun K419 hK420 => ?_)
              refine WC.region ?_
              refine WL.runs 1 [(68, .pointer (some ⟨g50, 7, none⟩))] (fun _ => by kernel_rfl) ?_
              refine WL.load 4 (.pointer (some ⟨g50, 7, none⟩)) (.bool e45.trusted) 69 (by kernel_rfl) (run_ld (hC415.get 2 rfl) rfl) ?_
              refine WL.runs 2 [(71, .bool !e45.trusted), (70, .bool !e45.trusted)] (fun _ => by kernel_rfl) ?_
              refine WL.test_at 71 (!e45.trusted) rfl (fun t421b => ?_) (fun t421b => ?_)
              · -- !e45.trusted = true: true
                have t421 : e45.trusted = false := by first | (simpa only [Bool.not_eq_true', Bool.not_eq_false'] using t421b) | simpa using t421b
                refine WL.runs 4 [(75, .bool (!((Go.bits .and .i64 flags 2) == 2))), (74, .bool (!((Go.bits .and .i64 flags 2) == 2))), (73, .bool (!((Go.bits .and .i64 flags 2) == 2))), (72, .bool ((Go.bits .and .i64 flags 2) == 2))] (fun _ => by kernel_rfl) ?_
                refine WL.know 75 (.bool (!((Go.bits .and .i64 flags 2) == 2))) (.bool true) rfl (congrArg Value.bool (by rw [t356b]; rfl)) ?_
                refine WL.runs 4 [(79, .pointer (some ⟨p, 1, none⟩)), (78, .pointer (some ⟨p, 0, none⟩)), (77, .pointer (some ⟨p, 0, none⟩)), (76, .int .i64 (cntE L : Int))] (fun _ => by kernel_rfl) ?_
                refine WL.load 3 (.pointer (some ⟨p, 1, none⟩)) (.int .i64 tr) 80 (by kernel_rfl) (run_ld (hC415.get 0 rfl) rfl) ?_
                refine WL.runs 2 [(82, .bool (decide ((cntE L : Int) < tr))), (81, .bool (decide ((cntE L : Int) < tr)))] (fun _ => by kernel_rfl) ?_
                refine WL.done rfl ?_
                refine QX.then_normal (hK420 _ _ ?_)
                refine WC.test_at 82 (decide ((cntE L : Int) < tr)) rfl (fun t422b => ?_) (fun t422b => ?_)
                · -- (cntE L : Int) < tr: true
                  have t422 : (cntE L : Int) < tr := by have q_ := of_decide_eq_true t422b; omega
                  refine WC.cond_true rfl ?_
                  refine WC.region ?_
                  refine WL.runs 1 [(83, .pointer (some ⟨g50, 7, none⟩))] (fun _ => by kernel_rfl) ?_
                  refine WL.storeM (c' := #[.int .i64 e45.flow.proto, .int .u32 e45.flow.src, .int .i64 e45.flow.sport, .int .u32 e45.flow.dst, .int .i64 e45.flow.dport, .int .u32 e45.dip, .int .i64 e45.epoch, .bool true, .bool e45.closing, .int .i64 now]) hC415 2 4 g50 7 (.bool true) (by kernel_rfl) rfl (by kernel_rfl) (fun w423 hF425 hC426 => ?_)
                  have ho427 := own_fr ho416 hF425 (hC415.apartM 0 2 rfl rfl)
                  refine WL.done rfl ?_
                  refine QX.then_normal (hK418 _ _ ?_)
                  refine WC.seq (fun K428 hK429 => ?_)
                  refine WC.drawC hC426 (blk (.slice A1 L.length c1)) (by kernel_rfl) (fun w430 hF431 hC432 hS433 => ?_)
                  have ho434 := own_fr ho427 hF431 (by simp)
                  refine WD.pure (NoPanic.then hN) 0 84 (.pointer (some ⟨p, 0, none⟩)) (by kernel_rfl) (fun _ => by kernel_rfl) hS433 ?_
                  refine WD.pure (NoPanic.then hN) 1 85 (.pointer (some ⟨p, 0, none⟩)) (by kernel_rfl) (fun _ => by kernel_rfl) hS433 ?_
                  refine WD.pure (NoPanic.then hN) 2 86 (.pointer (some ⟨p, 0, none⟩)) (by kernel_rfl) (fun _ => by kernel_rfl) hS433 ?_
                  refine WD.pure (NoPanic.then hN) 4 88 (.int .i64 (i12 : Int)) (by kernel_rfl) (fun _ => by kernel_rfl) hS433 ?_
                  refine WD.load (NoPanic.then hN) 3 44 (.pointer (some ⟨p, 0, none⟩)) (.slice A1 L.length c1) 87 (by kernel_rfl) (by kernel_rfl) (fun _ hS_ => run_ld (Fr.has hS_ (hC432.get 0 rfl) (hC432.notin 0 0 rfl rfl)) rfl) hS433 ?_
                  refine WD.sem 5 (Instr.loadAt 34 (.pointer (some ⟨g50, 0, none⟩))) 89 (.agg #[.int .i64 e45.flow.proto, .int .u32 e45.flow.src, .int .i64 e45.flow.sport, .int .u32 e45.flow.dst, .int .i64 e45.flow.dport, .int .u32 e45.dip, .int .i64 e45.epoch, .bool true, .bool e45.closing, .int .i64 now]) (by kernel_rfl) (by kernel_rfl) (run_ld (hC432.get 2 rfl) rfl) hS433 ?_
                  refine WD.index (NoPanic.then hN) 6 A1 L.length c1 90 .i64 (i12 : Int) b47 0 i12 10 (by kernel_rfl) (by kernel_rfl) hA48 (by omega) (by omega) (i12 * 10) (by first | (simp; done) | omega) hS433 ?_
                  obtain ⟨w439, hr440, hF441, ho443, hC442⟩ := stoE_run Try.prog cellsE_len hC432 0 hA48 rfl ho434 i12 0 (x := e45) he46 (⟨e45.flow, e45.dip, e45.epoch, true, e45.closing, now⟩ : Ent) [.int .i64 e45.flow.proto, .int .u32 e45.flow.src, .int .i64 e45.flow.sport, .int .u32 e45.flow.dst, .int .i64 e45.flow.dport, .int .u32 e45.dip, .int .i64 e45.epoch, .bool true, .bool e45.closing, .int .i64 now] rfl 34 (.agg #[.int .i64 e45.flow.proto, .int .u32 e45.flow.src, .int .i64 e45.flow.sport, .int .u32 e45.flow.dst, .int .i64 e45.flow.dport, .int .u32 e45.dip, .int .i64 e45.epoch, .bool true, .bool e45.closing, .int .i64 now]) (i12 * 10) rfl rfl rfl (by first | rfl | simp [Nat.add_assoc])
                  have hS444 := hS433.trans hF441 (fun x_ hx_ => .inl hx_)
                  refine WD.semU 7 (Instr.storeAt 34 (.pointer (some ⟨b47, i12 * 10, none⟩)) (.agg #[.int .i64 e45.flow.proto, .int .u32 e45.flow.src, .int .i64 e45.flow.sport, .int .u32 e45.flow.dst, .int .i64 e45.flow.dport, .int .u32 e45.dip, .int .i64 e45.epoch, .bool true, .bool e45.closing, .int .i64 now])) (by kernel_rfl) (by kernel_rfl) hr440 hS444 ?_
                  refine WD.done (by kernel_rfl) ?_
                  refine QX.then_normal (hK429 _ _ ?_)
                  refine WC.seq (fun K445 hK446 => ?_)
                  refine WC.region ?_
                  refine WL.runs 1 [(8, .bool true)] (fun _ => by kernel_rfl) ?_
                  refine WL.done rfl ?_
                  refine QX.then_normal (hK446 _ _ ?_)
                  refine WC.ret ?_
                  refine (hret _ _ _ rfl ?_).1
                  clear hN hret hret' hK446 hK429 hK420 hK418 hK412 hK355 hK353 hK217 hK215 hK213 hK70 hK63 hK44 hK34 hK32 hK11 hK2
                  have hte_ : touchE L tr e45 f flags now = (⟨e45.flow, e45.dip, e45.epoch, true, e45.closing, now⟩ : Ent) := by unfold touchE; simp [hx14, t218, t218b, t356, t356b, t40, t40b, t421, t421b, t422, t422b, t71, t71b, t72, t72b]
                  have hown_ := ho443
                  rw [← hte_] at hown_
                  exact ⟨_, true, _, rfl, hC442.fr, df_mk hC442 0 0 rfl rfl hown_, fun x_ hx_ => (List.mem_cons.1 hx_).elim (fun e_ => by subst e_; exact .inl List.mem_cons_self) (fun h_ => hC442.ownF _ (List.mem_of_getElem? (show _[0]? = some (blk (.slice A1 L.length c1)) from rfl)) x_ h_), .some _ _ t40 he46 (by subst x13; exact hfx15)⟩
                · -- (cntE L : Int) < tr: false
                  have t422 : tr ≤ (cntE L : Int) := by have q_ := of_decide_eq_false t422b; omega
                  refine WC.cond_false rfl ?_
                  refine WC.skip ?_
                  refine QX.then_normal (hK418 _ _ ?_)
                  refine WC.seq (fun K447 hK448 => ?_)
                  refine WC.drawC hC415 (blk (.slice A1 L.length c1)) (by kernel_rfl) (fun w449 hF450 hC451 hS452 => ?_)
                  have ho453 := own_fr ho416 hF450 (by simp)
                  refine WD.pure (NoPanic.then hN) 0 84 (.pointer (some ⟨p, 0, none⟩)) (by kernel_rfl) (fun _ => by kernel_rfl) hS452 ?_
                  refine WD.pure (NoPanic.then hN) 1 85 (.pointer (some ⟨p, 0, none⟩)) (by kernel_rfl) (fun _ => by kernel_rfl) hS452 ?_
                  refine WD.pure (NoPanic.then hN) 2 86 (.pointer (some ⟨p, 0, none⟩)) (by kernel_rfl) (fun _ => by kernel_rfl) hS452 ?_
                  refine WD.pure (NoPanic.then hN) 4 88 (.int .i64 (i12 : Int)) (by kernel_rfl) (fun _ => by kernel_rfl) hS452 ?_
                  refine WD.load (NoPanic.then hN) 3 44 (.pointer (some ⟨p, 0, none⟩)) (.slice A1 L.length c1) 87 (by kernel_rfl) (by kernel_rfl) (fun _ hS_ => run_ld (Fr.has hS_ (hC451.get 0 rfl) (hC451.notin 0 0 rfl rfl)) rfl) hS452 ?_
                  refine WD.sem 5 (Instr.loadAt 34 (.pointer (some ⟨g50, 0, none⟩))) 89 (.agg #[.int .i64 e45.flow.proto, .int .u32 e45.flow.src, .int .i64 e45.flow.sport, .int .u32 e45.flow.dst, .int .i64 e45.flow.dport, .int .u32 e45.dip, .int .i64 e45.epoch, .bool e45.trusted, .bool e45.closing, .int .i64 now]) (by kernel_rfl) (by kernel_rfl) (run_ld (hC451.get 2 rfl) rfl) hS452 ?_
                  refine WD.index (NoPanic.then hN) 6 A1 L.length c1 90 .i64 (i12 : Int) b47 0 i12 10 (by kernel_rfl) (by kernel_rfl) hA48 (by omega) (by omega) (i12 * 10) (by first | (simp; done) | omega) hS452 ?_
                  obtain ⟨w458, hr459, hF460, ho462, hC461⟩ := stoE_run Try.prog cellsE_len hC451 0 hA48 rfl ho453 i12 0 (x := e45) he46 (⟨e45.flow, e45.dip, e45.epoch, e45.trusted, e45.closing, now⟩ : Ent) [.int .i64 e45.flow.proto, .int .u32 e45.flow.src, .int .i64 e45.flow.sport, .int .u32 e45.flow.dst, .int .i64 e45.flow.dport, .int .u32 e45.dip, .int .i64 e45.epoch, .bool e45.trusted, .bool e45.closing, .int .i64 now] rfl 34 (.agg #[.int .i64 e45.flow.proto, .int .u32 e45.flow.src, .int .i64 e45.flow.sport, .int .u32 e45.flow.dst, .int .i64 e45.flow.dport, .int .u32 e45.dip, .int .i64 e45.epoch, .bool e45.trusted, .bool e45.closing, .int .i64 now]) (i12 * 10) rfl rfl rfl (by first | rfl | simp [Nat.add_assoc])
                  have hS463 := hS452.trans hF460 (fun x_ hx_ => .inl hx_)
                  refine WD.semU 7 (Instr.storeAt 34 (.pointer (some ⟨b47, i12 * 10, none⟩)) (.agg #[.int .i64 e45.flow.proto, .int .u32 e45.flow.src, .int .i64 e45.flow.sport, .int .u32 e45.flow.dst, .int .i64 e45.flow.dport, .int .u32 e45.dip, .int .i64 e45.epoch, .bool e45.trusted, .bool e45.closing, .int .i64 now])) (by kernel_rfl) (by kernel_rfl) hr459 hS463 ?_
                  refine WD.done (by kernel_rfl) ?_
                  refine QX.then_normal (hK448 _ _ ?_)
                  refine WC.seq (fun K464 hK465 => ?_)
                  refine WC.region ?_
                  refine WL.runs 1 [(8, .bool true)] (fun _ => by kernel_rfl) ?_
                  refine WL.done rfl ?_
                  refine QX.then_normal (hK465 _ _ ?_)
                  refine WC.ret ?_
                  refine (hret _ _ _ rfl ?_).1
                  clear hN hret hret' hK465 hK448 hK420 hK418 hK412 hK355 hK353 hK217 hK215 hK213 hK70 hK63 hK44 hK34 hK32 hK11 hK2
                  have hte_ : touchE L tr e45 f flags now = (⟨e45.flow, e45.dip, e45.epoch, e45.trusted, e45.closing, now⟩ : Ent) := by unfold touchE; simp [hx14, t218, t218b, t356, t356b, t40, t40b, t421, t421b, t422, t422b, t71, t71b, t72, t72b]
                  have hown_ := ho462
                  rw [← hte_] at hown_
                  exact ⟨_, true, _, rfl, hC461.fr, df_mk hC461 0 0 rfl rfl hown_, fun x_ hx_ => (List.mem_cons.1 hx_).elim (fun e_ => by subst e_; exact .inl List.mem_cons_self) (fun h_ => hC461.ownF _ (List.mem_of_getElem? (show _[0]? = some (blk (.slice A1 L.length c1)) from rfl)) x_ h_), .some _ _ t40 he46 (by subst x13; exact hfx15)⟩
              · -- !e45.trusted = true: false
                have t421 : e45.trusted = true := by first | (simpa only [Bool.not_eq_true', Bool.not_eq_false'] using t421b) | simpa using t421b
                refine WL.runs 11 [(82, .bool false), (81, undef), (80, undef), (79, undef), (78, undef), (77, undef), (76, undef), (75, .bool false), (74, .bool false), (73, undef), (72, undef)] (fun _ => by kernel_rfl) ?_
                refine WL.done rfl ?_
                refine QX.then_normal (hK420 _ _ ?_)
                refine WC.cond_false rfl ?_
                refine WC.skip ?_
                refine QX.then_normal (hK418 _ _ ?_)
                refine WC.seq (fun K466 hK467 => ?_)
                refine WC.drawC hC415 (blk (.slice A1 L.length c1)) (by kernel_rfl) (fun w468 hF469 hC470 hS471 => ?_)
                have ho472 := own_fr ho416 hF469 (by simp)
                refine WD.pure (NoPanic.then hN) 0 84 (.pointer (some ⟨p, 0, none⟩)) (by kernel_rfl) (fun _ => by kernel_rfl) hS471 ?_
                refine WD.pure (NoPanic.then hN) 1 85 (.pointer (some ⟨p, 0, none⟩)) (by kernel_rfl) (fun _ => by kernel_rfl) hS471 ?_
                refine WD.pure (NoPanic.then hN) 2 86 (.pointer (some ⟨p, 0, none⟩)) (by kernel_rfl) (fun _ => by kernel_rfl) hS471 ?_
                refine WD.pure (NoPanic.then hN) 4 88 (.int .i64 (i12 : Int)) (by kernel_rfl) (fun _ => by kernel_rfl) hS471 ?_
                refine WD.load (NoPanic.then hN) 3 44 (.pointer (some ⟨p, 0, none⟩)) (.slice A1 L.length c1) 87 (by kernel_rfl) (by kernel_rfl) (fun _ hS_ => run_ld (Fr.has hS_ (hC470.get 0 rfl) (hC470.notin 0 0 rfl rfl)) rfl) hS471 ?_
                refine WD.sem 5 (Instr.loadAt 34 (.pointer (some ⟨g50, 0, none⟩))) 89 (.agg #[.int .i64 e45.flow.proto, .int .u32 e45.flow.src, .int .i64 e45.flow.sport, .int .u32 e45.flow.dst, .int .i64 e45.flow.dport, .int .u32 e45.dip, .int .i64 e45.epoch, .bool e45.trusted, .bool e45.closing, .int .i64 now]) (by kernel_rfl) (by kernel_rfl) (run_ld (hC470.get 2 rfl) rfl) hS471 ?_
                refine WD.index (NoPanic.then hN) 6 A1 L.length c1 90 .i64 (i12 : Int) b47 0 i12 10 (by kernel_rfl) (by kernel_rfl) hA48 (by omega) (by omega) (i12 * 10) (by first | (simp; done) | omega) hS471 ?_
                obtain ⟨w477, hr478, hF479, ho481, hC480⟩ := stoE_run Try.prog cellsE_len hC470 0 hA48 rfl ho472 i12 0 (x := e45) he46 (⟨e45.flow, e45.dip, e45.epoch, e45.trusted, e45.closing, now⟩ : Ent) [.int .i64 e45.flow.proto, .int .u32 e45.flow.src, .int .i64 e45.flow.sport, .int .u32 e45.flow.dst, .int .i64 e45.flow.dport, .int .u32 e45.dip, .int .i64 e45.epoch, .bool e45.trusted, .bool e45.closing, .int .i64 now] rfl 34 (.agg #[.int .i64 e45.flow.proto, .int .u32 e45.flow.src, .int .i64 e45.flow.sport, .int .u32 e45.flow.dst, .int .i64 e45.flow.dport, .int .u32 e45.dip, .int .i64 e45.epoch, .bool e45.trusted, .bool e45.closing, .int .i64 now]) (i12 * 10) rfl rfl rfl (by first | rfl | simp [Nat.add_assoc])
                have hS482 := hS471.trans hF479 (fun x_ hx_ => .inl hx_)
                refine WD.semU 7 (Instr.storeAt 34 (.pointer (some ⟨b47, i12 * 10, none⟩)) (.agg #[.int .i64 e45.flow.proto, .int .u32 e45.flow.src, .int .i64 e45.flow.sport, .int .u32 e45.flow.dst, .int .i64 e45.flow.dport, .int .u32 e45.dip, .int .i64 e45.epoch, .bool e45.trusted, .bool e45.closing, .int .i64 now])) (by kernel_rfl) (by kernel_rfl) hr478 hS482 ?_
                refine WD.done (by kernel_rfl) ?_
                refine QX.then_normal (hK467 _ _ ?_)
                refine WC.seq (fun K483 hK484 => ?_)
                refine WC.region ?_
                refine WL.runs 1 [(8, .bool true)] (fun _ => by kernel_rfl) ?_
                refine WL.done rfl ?_
                refine QX.then_normal (hK484 _ _ ?_)
                refine WC.ret ?_
                refine (hret _ _ _ rfl ?_).1
                clear hN hret hret' hK484 hK467 hK420 hK418 hK412 hK355 hK353 hK217 hK215 hK213 hK70 hK63 hK44 hK34 hK32 hK11 hK2
                have hte_ : touchE L tr e45 f flags now = (⟨e45.flow, e45.dip, e45.epoch, e45.trusted, e45.closing, now⟩ : Ent) := by unfold touchE; simp [hx14, t218, t218b, t356, t356b, t40, t40b, t421, t421b, t71, t71b, t72, t72b]
                have hown_ := ho481
                rw [← hte_] at hown_
                exact ⟨_, true, _, rfl, hC480.fr, df_mk hC480 0 0 rfl rfl hown_, fun x_ hx_ => (List.mem_cons.1 hx_).elim (fun e_ => by subst e_; exact .inl List.mem_cons_self) (fun h_ => hC480.ownF _ (List.mem_of_getElem? (show _[0]? = some (blk (.slice A1 L.length c1)) from rfl)) x_ h_), .some _ _ t40 he46 (by subst x13; exact hfx15)⟩
      · -- f.proto = 6: false
        have t71 : ¬ (f.proto = 6) := by simpa using t71b
        refine WL.runs 10 [(11, .bool false), (46, .bool false), (45, undef), (44, undef), (43, undef), (42, undef), (41, undef), (40, undef), (39, undef), (38, undef)] (fun _ => by kernel_rfl) ?_
        refine WL.done rfl ?_
        refine QX.then_normal (hK70 _ _ ?_)
        refine WC.seq (fun K485 hK486 => ?_)
        refine WC.region ?_
        refine WL.runs 1 [(47, .pointer (some ⟨g3, 0, none⟩))] (fun _ => by kernel_rfl) ?_
        refine WL.load 3 (.pointer (some ⟨g3, 0, none⟩)) (.int .i64 f.proto) 48 (by kernel_rfl) (run_ld (hC67.get 1 rfl) rfl) ?_
        refine WL.runs 2 [(50, .bool (f.proto == 6)), (49, .bool (f.proto == 6))] (fun _ => by kernel_rfl) ?_
        refine WL.know 50 (.bool (f.proto == 6)) (.bool false) rfl (congrArg Value.bool (by exact t71b)) ?_
        refine WL.runs 5 [(12, .bool false), (54, .bool false), (53, undef), (52, undef), (51, undef)] (fun _ => by kernel_rfl) ?_
        refine WL.done rfl ?_
        refine QX.then_normal (hK486 _ _ ?_)
        refine WC.seq (fun K487 hK488 => ?_)
        refine WC.seq (fun K489 hK490 => ?_)
        refine WC.region ?_
        refine WL.runs 1 [(55, .bool false)] (fun _ => by kernel_rfl) ?_
        refine WL.done rfl ?_
        refine QX.then_normal (hK490 _ _ ?_)
        refine WC.cond_false rfl ?_
        refine WC.skip ?_
        refine QX.then_normal (hK488 _ _ ?_)
        refine WC.seq (fun K491 hK492 => ?_)
        refine WC.seq (fun K493 hK494 => ?_)
        refine WC.region ?_
        refine WL.runs 5 [(61, .bool false), (60, undef), (59, undef), (58, .bool false), (57, .bool false)] (fun _ => by kernel_rfl) ?_
        refine WL.done rfl ?_
        refine QX.then_normal (hK494 _ _ ?_)
        refine WC.cond_false rfl ?_
        refine WC.skip ?_
        refine QX.then_normal (hK492 _ _ ?_)
        refine WC.seq (fun K495 hK496 => ?_)
        refine WC.region ?_
        refine WL.runs 1 [(64, .pointer (some ⟨p, 0, none⟩))] (fun _ => by kernel_rfl) ?_
        refine WL.call rfl rfl rfl rfl rfl (by kernel_rfl) (RLen_ct _ p L tr un w64 (df_mk hC67 0 0 rfl rfl ho68)) ?_
        rintro _ w498 ⟨rfl, hF497⟩
        refine ⟨_, rfl, ?_⟩
        have hC499 := hC67.call hF497
        have ho500 := own_fr ho68 hF497 (by simp)
        refine WL.runs 5 [(14, .int .i64 ((L.length : Int) - cntE L)), (13, .int .i64 (cntE L : Int)), (67, .int .i64 ((L.length : Int) - cntE L)), (66, .int .i64 (cntE L : Int)), (63, .tuple #[.int .i64 (cntE L : Int), .int .i64 ((L.length : Int) - cntE L)])] (fun _ => by kernel_rfl) ?_
        refine WL.done rfl ?_
        refine QX.then_normal (hK496 _ _ ?_)
        refine WC.seq (fun K501 hK502 => ?_)
        refine WC.seq (fun K503 hK504 => ?_)
        refine WC.region ?_
        refine WL.runs 1 [(68, .pointer (some ⟨g50, 7, none⟩))] (fun _ => by kernel_rfl) ?_
        refine WL.load 4 (.pointer (some ⟨g50, 7, none⟩)) (.bool e45.trusted) 69 (by kernel_rfl) (run_ld (hC499.get 2 rfl) rfl) ?_
        refine WL.runs 2 [(71, .bool !e45.trusted), (70, .bool !e45.trusted)] (fun _ => by kernel_rfl) ?_
        refine WL.test_at 71 (!e45.trusted) rfl (fun t505b => ?_) (fun t505b => ?_)
        · -- !e45.trusted = true: true
          have t505 : e45.trusted = false := by first | (simpa only [Bool.not_eq_true', Bool.not_eq_false'] using t505b) | simpa using t505b
          refine WL.runs 8 [(79, .pointer (some ⟨p, 1, none⟩)), (78, .pointer (some ⟨p, 0, none⟩)), (77, .pointer (some ⟨p, 0, none⟩)), (76, .int .i64 (cntE L : Int)), (75, .bool true), (74, .bool true), (73, .bool true), (72, .bool false)] (fun _ => by kernel_rfl) ?_
          refine WL.load 3 (.pointer (some ⟨p, 1, none⟩)) (.int .i64 tr) 80 (by kernel_rfl) (run_ld (hC499.get 0 rfl) rfl) ?_
          refine WL.runs 2 [(82, .bool (decide ((cntE L : Int) < tr))), (81, .bool (decide ((cntE L : Int) < tr)))] (fun _ => by kernel_rfl) ?_
          refine WL.done rfl ?_
          refine QX.then_normal (hK504 _ _ ?_)
          refine WC.test_at 82 (decide ((cntE L : Int) < tr)) rfl (fun t506b => ?_) (fun t506b => ?_)
          · -- (cntE L : Int) < tr: true
            have t506 : (cntE L : Int) < tr := by have q_ := of_decide_eq_true t506b; omega
            refine WC.cond_true rfl ?_
            refine WC.region ?_
            refine WL.runs 1 [(83, .pointer (some ⟨g50, 7, none⟩))] (fun _ => by kernel_rfl) ?_
            refine WL.storeM (c' := #[.int .i64 e45.flow.proto, .int .u32 e45.flow.src, .int .i64 e45.flow.sport, .int .u32 e45.flow.dst, .int .i64 e45.flow.dport, .int .u32 e45.dip, .int .i64 e45.epoch, .bool true, .bool e45.closing, .int .i64 now]) hC499 2 4 g50 7 (.bool true) (by kernel_rfl) rfl (by kernel_rfl) (fun w507 hF509 hC510 => ?_)
            have ho511 := own_fr ho500 hF509 (hC499.apartM 0 2 rfl rfl)
            refine WL.done rfl ?_
            refine QX.then_normal (hK502 _ _ ?_)
            refine WC.seq (fun K512 hK513 => ?_)
            refine WC.drawC hC510 (blk (.slice A1 L.length c1)) (by kernel_rfl) (fun w514 hF515 hC516 hS517 => ?_)
            have ho518 := own_fr ho511 hF515 (by simp)
            refine WD.pure (NoPanic.then hN) 0 84 (.pointer (some ⟨p, 0, none⟩)) (by kernel_rfl) (fun _ => by kernel_rfl) hS517 ?_
            refine WD.pure (NoPanic.then hN) 1 85 (.pointer (some ⟨p, 0, none⟩)) (by kernel_rfl) (fun _ => by kernel_rfl) hS517 ?_
            refine WD.pure (NoPanic.then hN) 2 86 (.pointer (some ⟨p, 0, none⟩)) (by kernel_rfl) (fun _ => by kernel_rfl) hS517 ?_
            refine WD.pure (NoPanic.then hN) 4 88 (.int .i64 (i12 : Int)) (by kernel_rfl) (fun _ => by kernel_rfl) hS517 ?_
            refine WD.load (NoPanic.then hN) 3 44 (.pointer (some ⟨p, 0, none⟩)) (.slice A1 L.length c1) 87 (by kernel_rfl) (by kernel_rfl) (fun _ hS_ => run_ld (Fr.has hS_ (hC516.get 0 rfl) (hC516.notin 0 0 rfl rfl)) rfl) hS517 ?_
            refine WD.sem 5 (Instr.loadAt 34 (.pointer (some ⟨g50, 0, none⟩))) 89 (.agg #[.int .i64 e45.flow.proto, .int .u32 e45.flow.src, .int .i64 e45.flow.sport, .int .u32 e45.flow.dst, .int .i64 e45.flow.dport, .int .u32 e45.dip, .int .i64 e45.epoch, .bool true, .bool e45.closing, .int .i64 now]) (by kernel_rfl) (by kernel_rfl) (run_ld (hC516.get 2 rfl) rfl) hS517 ?_
            refine WD.index (NoPanic.then hN) 6 A1 L.length c1 90 .i64 (i12 : Int) b47 0 i12 10 (by kernel_rfl) (by kernel_rfl) hA48 (by omega) (by omega) (i12 * 10) (by first | (simp; done) | omega) hS517 ?_
            obtain ⟨w523, hr524, hF525, ho527, hC526⟩ := stoE_run Try.prog cellsE_len hC516 0 hA48 rfl ho518 i12 0 (x := e45) he46 (⟨e45.flow, e45.dip, e45.epoch, true, e45.closing, now⟩ : Ent) [.int .i64 e45.flow.proto, .int .u32 e45.flow.src, .int .i64 e45.flow.sport, .int .u32 e45.flow.dst, .int .i64 e45.flow.dport, .int .u32 e45.dip, .int .i64 e45.epoch, .bool true, .bool e45.closing, .int .i64 now] rfl 34 (.agg #[.int .i64 e45.flow.proto, .int .u32 e45.flow.src, .int .i64 e45.flow.sport, .int .u32 e45.flow.dst, .int .i64 e45.flow.dport, .int .u32 e45.dip, .int .i64 e45.epoch, .bool true, .bool e45.closing, .int .i64 now]) (i12 * 10) rfl rfl rfl (by first | rfl | simp [Nat.add_assoc])
            have hS528 := hS517.trans hF525 (fun x_ hx_ => .inl hx_)
            refine WD.semU 7 (Instr.storeAt 34 (.pointer (some ⟨b47, i12 * 10, none⟩)) (.agg #[.int .i64 e45.flow.proto, .int .u32 e45.flow.src, .int .i64 e45.flow.sport, .int .u32 e45.flow.dst, .int .i64 e45.flow.dport, .int .u32 e45.dip, .int .i64 e45.epoch, .bool true, .bool e45.closing, .int .i64 now])) (by kernel_rfl) (by kernel_rfl) hr524 hS528 ?_
            refine WD.done (by kernel_rfl) ?_
            refine QX.then_normal (hK513 _ _ ?_)
            refine WC.seq (fun K529 hK530 => ?_)
            refine WC.region ?_
            refine WL.runs 1 [(8, .bool true)] (fun _ => by kernel_rfl) ?_
            refine WL.done rfl ?_
            refine QX.then_normal (hK530 _ _ ?_)
            refine WC.ret ?_
            refine (hret _ _ _ rfl ?_).1
            clear hN hret hret' hK530 hK513 hK504 hK502 hK496 hK494 hK492 hK490 hK488 hK486 hK70 hK63 hK44 hK34 hK32 hK11 hK2
            have hte_ : touchE L tr e45 f flags now = (⟨e45.flow, e45.dip, e45.epoch, true, e45.closing, now⟩ : Ent) := by unfold touchE; simp [hx14, t40, t40b, t505, t505b, t506, t506b, t71, t71b]
            have hown_ := ho527
            rw [← hte_] at hown_
            exact ⟨_, true, _, rfl, hC526.fr, df_mk hC526 0 0 rfl rfl hown_, fun x_ hx_ => (List.mem_cons.1 hx_).elim (fun e_ => by subst e_; exact .inl List.mem_cons_self) (fun h_ => hC526.ownF _ (List.mem_of_getElem? (show _[0]? = some (blk (.slice A1 L.length c1)) from rfl)) x_ h_), .some _ _ t40 he46 (by subst x13; exact hfx15)⟩
          · -- (cntE L : Int) < tr: false
            have t506 : tr ≤ (cntE L : Int) := by have q_ := of_decide_eq_false t506b; omega
            refine WC.cond_false rfl ?_
            refine WC.skip ?_
            refine QX.then_normal (hK502 _ _ ?_)
            refine WC.seq (fun K531 hK532 => ?_)
            refine WC.drawC hC499 (blk (.slice A1 L.length c1)) (by kernel_rfl) (fun w533 hF534 hC535 hS536 => ?_)
            have ho537 := own_fr ho500 hF534 (by simp)
            refine WD.pure (NoPanic.then hN) 0 84 (.pointer (some ⟨p, 0, none⟩)) (by kernel_rfl) (fun _ => by kernel_rfl) hS536 ?_
            refine WD.pure (NoPanic.then hN) 1 85 (.pointer (some ⟨p, 0, none⟩)) (by kernel_rfl) (fun _ => by kernel_rfl) hS536 ?_
            refine WD.pure (NoPanic.then hN) 2 86 (.pointer (some ⟨p, 0, none⟩)) (by kernel_rfl) (fun _ => by kernel_rfl) hS536 ?_
            refine WD.pure (NoPanic.then hN) 4 88 (.int .i64 (i12 : Int)) (by kernel_rfl) (fun _ => by kernel_rfl) hS536 ?_
            refine WD.load (NoPanic.then hN) 3 44 (.pointer (some ⟨p, 0, none⟩)) (.slice A1 L.length c1) 87 (by kernel_rfl) (by kernel_rfl) (fun _ hS_ => run_ld (Fr.has hS_ (hC535.get 0 rfl) (hC535.notin 0 0 rfl rfl)) rfl) hS536 ?_
            refine WD.sem 5 (Instr.loadAt 34 (.pointer (some ⟨g50, 0, none⟩))) 89 (.agg #[.int .i64 e45.flow.proto, .int .u32 e45.flow.src, .int .i64 e45.flow.sport, .int .u32 e45.flow.dst, .int .i64 e45.flow.dport, .int .u32 e45.dip, .int .i64 e45.epoch, .bool e45.trusted, .bool e45.closing, .int .i64 now]) (by kernel_rfl) (by kernel_rfl) (run_ld (hC535.get 2 rfl) rfl) hS536 ?_
            refine WD.index (NoPanic.then hN) 6 A1 L.length c1 90 .i64 (i12 : Int) b47 0 i12 10 (by kernel_rfl) (by kernel_rfl) hA48 (by omega) (by omega) (i12 * 10) (by first | (simp; done) | omega) hS536 ?_
            obtain ⟨w542, hr543, hF544, ho546, hC545⟩ := stoE_run Try.prog cellsE_len hC535 0 hA48 rfl ho537 i12 0 (x := e45) he46 (⟨e45.flow, e45.dip, e45.epoch, e45.trusted, e45.closing, now⟩ : Ent) [.int .i64 e45.flow.proto, .int .u32 e45.flow.src, .int .i64 e45.flow.sport, .int .u32 e45.flow.dst, .int .i64 e45.flow.dport, .int .u32 e45.dip, .int .i64 e45.epoch, .bool e45.trusted, .bool e45.closing, .int .i64 now] rfl 34 (.agg #[.int .i64 e45.flow.proto, .int .u32 e45.flow.src, .int .i64 e45.flow.sport, .int .u32 e45.flow.dst, .int .i64 e45.flow.dport, .int .u32 e45.dip, .int .i64 e45.epoch, .bool e45.trusted, .bool e45.closing, .int .i64 now]) (i12 * 10) rfl rfl rfl (by first | rfl | simp [Nat.add_assoc])
            have hS547 := hS536.trans hF544 (fun x_ hx_ => .inl hx_)
            refine WD.semU 7 (Instr.storeAt 34 (.pointer (some ⟨b47, i12 * 10, none⟩)) (.agg #[.int .i64 e45.flow.proto, .int .u32 e45.flow.src, .int .i64 e45.flow.sport, .int .u32 e45.flow.dst, .int .i64 e45.flow.dport, .int .u32 e45.dip, .int .i64 e45.epoch, .bool e45.trusted, .bool e45.closing, .int .i64 now])) (by kernel_rfl) (by kernel_rfl) hr543 hS547 ?_
            refine WD.done (by kernel_rfl) ?_
            refine QX.then_normal (hK532 _ _ ?_)
            refine WC.seq (fun K548 hK549 => ?_)
            refine WC.region ?_
            refine WL.runs 1 [(8, .bool true)] (fun _ => by kernel_rfl) ?_
            refine WL.done rfl ?_
            refine QX.then_normal (hK549 _ _ ?_)
            refine WC.ret ?_
            refine (hret _ _ _ rfl ?_).1
            clear hN hret hret' hK549 hK532 hK504 hK502 hK496 hK494 hK492 hK490 hK488 hK486 hK70 hK63 hK44 hK34 hK32 hK11 hK2
            have hte_ : touchE L tr e45 f flags now = (⟨e45.flow, e45.dip, e45.epoch, e45.trusted, e45.closing, now⟩ : Ent) := by unfold touchE; simp [hx14, t40, t40b, t505, t505b, t506, t506b, t71, t71b]
            have hown_ := ho546
            rw [← hte_] at hown_
            exact ⟨_, true, _, rfl, hC545.fr, df_mk hC545 0 0 rfl rfl hown_, fun x_ hx_ => (List.mem_cons.1 hx_).elim (fun e_ => by subst e_; exact .inl List.mem_cons_self) (fun h_ => hC545.ownF _ (List.mem_of_getElem? (show _[0]? = some (blk (.slice A1 L.length c1)) from rfl)) x_ h_), .some _ _ t40 he46 (by subst x13; exact hfx15)⟩
        · -- !e45.trusted = true: false
          have t505 : e45.trusted = true := by first | (simpa only [Bool.not_eq_true', Bool.not_eq_false'] using t505b) | simpa using t505b
          refine WL.runs 11 [(82, .bool false), (81, undef), (80, undef), (79, undef), (78, undef), (77, undef), (76, undef), (75, .bool false), (74, .bool false), (73, undef), (72, undef)] (fun _ => by kernel_rfl) ?_
          refine WL.done rfl ?_
          refine QX.then_normal (hK504 _ _ ?_)
          refine WC.cond_false rfl ?_
          refine WC.skip ?_
          refine QX.then_normal (hK502 _ _ ?_)
          refine WC.seq (fun K550 hK551 => ?_)
          refine WC.drawC hC499 (blk (.slice A1 L.length c1)) (by kernel_rfl) (fun w552 hF553 hC554 hS555 => ?_)
          have ho556 := own_fr ho500 hF553 (by simp)
          refine WD.pure (NoPanic.then hN) 0 84 (.pointer (some ⟨p, 0, none⟩)) (by kernel_rfl) (fun _ => by kernel_rfl) hS555 ?_
          refine WD.pure (NoPanic.then hN) 1 85 (.pointer (some ⟨p, 0, none⟩)) (by kernel_rfl) (fun _ => by kernel_rfl) hS555 ?_
          refine WD.pure (NoPanic.then hN) 2 86 (.pointer (some ⟨p, 0, none⟩)) (by kernel_rfl) (fun _ => by kernel_rfl) hS555 ?_
          refine WD.pure (NoPanic.then hN) 4 88 (.int .i64 (i12 : Int)) (by kernel_rfl) (fun _ => by kernel_rfl) hS555 ?_
          refine WD.load (NoPanic.then hN) 3 44 (.pointer (some ⟨p, 0, none⟩)) (.slice A1 L.length c1) 87 (by kernel_rfl) (by kernel_rfl) (fun _ hS_ => run_ld (Fr.has hS_ (hC554.get 0 rfl) (hC554.notin 0 0 rfl rfl)) rfl) hS555 ?_
          refine WD.sem 5 (Instr.loadAt 34 (.pointer (some ⟨g50, 0, none⟩))) 89 (.agg #[.int .i64 e45.flow.proto, .int .u32 e45.flow.src, .int .i64 e45.flow.sport, .int .u32 e45.flow.dst, .int .i64 e45.flow.dport, .int .u32 e45.dip, .int .i64 e45.epoch, .bool e45.trusted, .bool e45.closing, .int .i64 now]) (by kernel_rfl) (by kernel_rfl) (run_ld (hC554.get 2 rfl) rfl) hS555 ?_
          refine WD.index (NoPanic.then hN) 6 A1 L.length c1 90 .i64 (i12 : Int) b47 0 i12 10 (by kernel_rfl) (by kernel_rfl) hA48 (by omega) (by omega) (i12 * 10) (by first | (simp; done) | omega) hS555 ?_
          obtain ⟨w561, hr562, hF563, ho565, hC564⟩ := stoE_run Try.prog cellsE_len hC554 0 hA48 rfl ho556 i12 0 (x := e45) he46 (⟨e45.flow, e45.dip, e45.epoch, e45.trusted, e45.closing, now⟩ : Ent) [.int .i64 e45.flow.proto, .int .u32 e45.flow.src, .int .i64 e45.flow.sport, .int .u32 e45.flow.dst, .int .i64 e45.flow.dport, .int .u32 e45.dip, .int .i64 e45.epoch, .bool e45.trusted, .bool e45.closing, .int .i64 now] rfl 34 (.agg #[.int .i64 e45.flow.proto, .int .u32 e45.flow.src, .int .i64 e45.flow.sport, .int .u32 e45.flow.dst, .int .i64 e45.flow.dport, .int .u32 e45.dip, .int .i64 e45.epoch, .bool e45.trusted, .bool e45.closing, .int .i64 now]) (i12 * 10) rfl rfl rfl (by first | rfl | simp [Nat.add_assoc])
          have hS566 := hS555.trans hF563 (fun x_ hx_ => .inl hx_)
          refine WD.semU 7 (Instr.storeAt 34 (.pointer (some ⟨b47, i12 * 10, none⟩)) (.agg #[.int .i64 e45.flow.proto, .int .u32 e45.flow.src, .int .i64 e45.flow.sport, .int .u32 e45.flow.dst, .int .i64 e45.flow.dport, .int .u32 e45.dip, .int .i64 e45.epoch, .bool e45.trusted, .bool e45.closing, .int .i64 now])) (by kernel_rfl) (by kernel_rfl) hr562 hS566 ?_
          refine WD.done (by kernel_rfl) ?_
          refine QX.then_normal (hK551 _ _ ?_)
          refine WC.seq (fun K567 hK568 => ?_)
          refine WC.region ?_
          refine WL.runs 1 [(8, .bool true)] (fun _ => by kernel_rfl) ?_
          refine WL.done rfl ?_
          refine QX.then_normal (hK568 _ _ ?_)
          refine WC.ret ?_
          refine (hret _ _ _ rfl ?_).1
          clear hN hret hret' hK568 hK551 hK504 hK502 hK496 hK494 hK492 hK490 hK488 hK486 hK70 hK63 hK44 hK34 hK32 hK11 hK2
          have hte_ : touchE L tr e45 f flags now = (⟨e45.flow, e45.dip, e45.epoch, e45.trusted, e45.closing, now⟩ : Ent) := by unfold touchE; simp [hx14, t40, t40b, t505, t505b, t71, t71b]
          have hown_ := ho565
          rw [← hte_] at hown_
          exact ⟨_, true, _, rfl, hC564.fr, df_mk hC564 0 0 rfl rfl hown_, fun x_ hx_ => (List.mem_cons.1 hx_).elim (fun e_ => by subst e_; exact .inl List.mem_cons_self) (fun h_ => hC564.ownF _ (List.mem_of_getElem? (show _[0]? = some (blk (.slice A1 L.length c1)) from rfl)) x_ h_), .some _ _ t40 he46 (by subst x13; exact hfx15)⟩

def exE (L : List Ent) (now : Int) : List Flow × List Ent := if goodTime now then ((L.filter (idleB · now)).map (·.flow), L.filter (fun e => !idleB e now)) else ([], L)
set_option maxHeartbeats 2000000 in
theorem RExpire_ct (F : List Nat) (p : Nat) (L : List Ent) (tr un : Int) (now : Int) (w : World) (ht : dfAt w F p L tr un) (hls : ∀ x ∈ L, 0 ≤ x.last ∧ x.last ≤ 1099511627776) (hlm : L.length ≤ 1000000) : Calls Try.prog 26 #[.pointer (some ⟨p, 0, none⟩), .int .i64 now] w fun e w' => ∃ v F2, e = .returned v ∧ Fr w w' F ∧ dfAt w' F2 p (exE L now).2 tr un ∧ (∀ x ∈ F2, x ∈ F ∨ w.heap.size ≤ x) ∧ w'.ownsRow w.heap.size 32 5 v (exE L now).1.length ((exE L now).1.flatMap cellsF) ∧ ∀ x ∈ blk v, x ∉ F2 := by
  refine enterD (n := 53) Try.func26 rfl rfl (Nat.le_of_ble_eq_true rfl) ?_
  intro Q0 hN hret hret'
  have ht0 := ht
  obtain ⟨A1, c1, hp_, ho_, rfl, hn_⟩ := ht
  have hC := Cx.openR hp_ (own_lt ho_) hn_
  have hmx_ := own_max ho_
  refine WC.seq (fun K1 hK2 => ?_)
  refine WC.region ?_
  refine WL.runs 1 [(4, .slice none 0 0)] (fun _ => by kernel_rfl) ?_
  refine WL.done rfl ?_
  refine QX.then_normal (hK2 _ _ ?_)
  refine WC.seq (fun K3 hK4 => ?_)
  refine WC.region ?_
  refine WL.runs 1 [(5, .slice none 0 0)] (fun _ => by kernel_rfl) ?_
  refine WL.done rfl ?_
  refine QX.then_normal (hK4 _ _ ?_)
  refine WC.seq (fun K5 hK6 => ?_)
  refine WC.seq (fun K7 hK8 => ?_)
  refine WC.region ?_
  refine WL.runs 1 [(10, .int .i64 now)] (fun _ => by kernel_rfl) ?_
  refine WL.call rfl rfl rfl rfl rfl (by kernel_rfl) (time_ct now w) ?_
  rintro _ w10 ⟨rfl, hF9⟩
  refine ⟨_, rfl, ?_⟩
  have hC11 := hC.call hF9
  have ho12 := own_fr ho_ hF9 (by simp)
  have hf13 := (Fr.refl w []).trans hF9 (by simp)
  refine WL.runs 1 [(12, .bool (!(goodTime now)))] (fun _ => by kernel_rfl) ?_
  refine WL.done rfl ?_
  refine QX.then_normal (hK8 _ _ ?_)
  refine WC.test_at 12 (!(goodTime now)) rfl (fun t14b => ?_) (fun t14b => ?_)
  · -- (!(goodTime now)) = true: true
    have t14 : (goodTime now) = false := by first | (simpa only [Bool.not_eq_true', Bool.not_eq_false'] using t14b) | simpa using t14b
    refine WC.cond_true rfl ?_
    refine WC.seq (fun K15 hK16 => ?_)
    refine WC.region ?_
    refine WL.runs 1 [(4, .slice none 0 0)] (fun _ => by kernel_rfl) ?_
    refine WL.done rfl ?_
    refine QX.then_normal (hK16 _ _ ?_)
    refine WC.ret ?_
    refine QX.then_ret ?_
    refine (hret _ _ _ rfl ?_).1
    clear hN hret hret' hK16 hK8 hK6 hK4 hK2
    have ho_ : exE L now = ([], L) := by unfold exE; rw [if_neg (by simp [t14, t14b])]
    rw [ho_]
    exact ⟨_, _, rfl, hC11.fr, df_mk hC11 0 0 rfl rfl ho12, fun x_ hx_ => (List.mem_cons.1 hx_).elim (fun e_ => by subst e_; exact .inl List.mem_cons_self) (fun h_ => hC11.ownF _ (List.mem_of_getElem? (show _[0]? = some (blk (.slice A1 L.length c1)) from rfl)) x_ h_), own_nil _ _ _ _, (fun _ h_ => nomatch h_)⟩
  · -- (!(goodTime now)) = true: false
    have t14 : (goodTime now) = true := by first | (simpa only [Bool.not_eq_true', Bool.not_eq_false'] using t14b) | simpa using t14b
    refine WC.cond_false rfl ?_
    refine WC.skip ?_
    refine QX.then_normal (hK6 _ _ ?_)
    refine WC.seq (fun K17 hK18 => ?_)
    refine WC.region ?_
    refine WL.runs 1 [(6, .slice none 0 0)] (fun _ => by kernel_rfl) ?_
    refine WL.done rfl ?_
    refine QX.then_normal (hK18 _ _ ?_)
    refine WC.seq (fun K19 hK20 => ?_)
    refine WC.seq (fun K21 hK22 => ?_)
    refine WC.region ?_
    refine WL.runs 1 [(7, .int .i64 0)] (fun _ => by kernel_rfl) ?_
    refine WL.done rfl ?_
    refine QX.then_normal (hK22 _ _ ?_)
    refine WC.block ?_
    have hC23 := hC11.addNil
    have hC24 := hC23.addNil
    refine WC.loop (fun m_ E_ w_ => ∃ (k : Nat) (A5 : Option Addr) (n5 c5 : Nat) (A6 : Option Addr) (n6 c6 : Nat), m_ = L.length - k ∧ E_ = [(0, .pointer (some ⟨p, 0, none⟩)), (1, .int .i64 now), (5, .slice A5 n5 c5), (6, .slice A6 n6 c6), (7, .int .i64 (k : Int))] ∧ Cx w (p :: blk (.slice A1 L.length c1)) w_ [(p, .cells #[.slice A1 L.length c1, .int .i64 tr, .int .i64 un] 51)] [blk (.slice A1 L.length c1), blk (.slice A5 n5 c5), blk (.slice A6 n6 c6)] ∧ World.ownsRow w_ 0 34 10 (.slice A1 L.length c1) L.length (L.flatMap cellsE) ∧ World.ownsRow w_ 0 32 5 (.slice A5 n5 c5) n5 ((((L.take k).filter (idleB · now)).map (·.flow)).flatMap cellsF) ∧ World.ownsRow w_ 0 34 10 (.slice A6 n6 c6) n6 (((L.take k).filter (fun e => !idleB e now)).flatMap cellsE) ∧ (k ≤ L.length)) ⟨_, _, ⟨0, none, 0, 0, none, 0, 0, rfl, rfl, hC24, ho12, own_nil _ _ _ _, own_nil _ _ _ _, Nat.zero_le _⟩, sub_of ⟨rfl, rfl, rfl, rfl, rfl, trivial⟩⟩ (fun m28 E_ w29 K25 hK26 hI27 => ?_)
    obtain ⟨k, A5, n5, c5, A6, n6, c6, rfl, rfl, hC30, row_m28, hout5, hleft6, hk⟩ := hI27
    have hcn5_ := own_count cellsF_len (by decide) hout5
    have hcn6_ := own_count cellsE_len (by decide) hleft6
    have hq1_ := List.length_filter_le (idleB · now) (L.take k)
    have hq2_ := List.length_filter_le (fun e => !idleB e now) (L.take k)
    rw [List.length_map] at hcn5_
    rw [List.length_take] at hq1_ hq2_
    refine WC.seq (fun K31 hK32 => ?_)
    refine WC.seq (fun K33 hK34 => ?_)
    refine WC.region ?_
    refine WL.runs 4 [(16, .pointer (some ⟨p, 0, none⟩)), (15, .pointer (some ⟨p, 0, none⟩)), (14, .pointer (some ⟨p, 0, none⟩)), (13, .int .i64 (k : Int))] (fun _ => by kernel_rfl) ?_
    refine WL.load 44 (.pointer (some ⟨p, 0, none⟩)) (.slice A1 L.length c1) 17 (by kernel_rfl) (run_ld (hC30.get 0 rfl) rfl) ?_
    refine WL.runs 2 [(19, .bool (decide ((k : Int) < (L.length : Int)))), (18, .int .i64 (L.length : Int))] (fun _ => by kernel_rfl) ?_
    refine WL.done rfl ?_
    refine QX.then_normal (hK34 _ _ ?_)
    refine WC.test_at 19 (decide ((k : Int) < (L.length : Int))) rfl (fun t35b => ?_) (fun t35b => ?_)
    · -- (k : Int) < (L.length : Int): true
      have t35 : (k : Int) < (L.length : Int) := by have q_ := of_decide_eq_true t35b; omega
      refine WC.cond_true rfl ?_
      refine WC.skip ?_
      refine QX.then_normal (hK32 _ _ ?_)
      refine WC.seq (fun K36 hK37 => ?_)
      refine WC.block ?_
      refine WC.seq (fun K38 hK39 => ?_)
      refine WC.region ?_
      refine WL.runs 3 [(24, .pointer (some ⟨p, 0, none⟩)), (23, .pointer (some ⟨p, 0, none⟩)), (22, .pointer (some ⟨p, 0, none⟩))] (fun _ => by kernel_rfl) ?_
      refine WL.load 44 (.pointer (some ⟨p, 0, none⟩)) (.slice A1 L.length c1) 25 (by kernel_rfl) (run_ld (hC30.get 0 rfl) rfl) ?_
      refine WL.runs 1 [(26, .int .i64 (k : Int))] (fun _ => by kernel_rfl) ?_
      have hn44 := own_count cellsE_len (by decide) row_m28
      obtain ⟨e40, he41⟩ := get_some (xs := L) (i := k) (by omega)
      obtain ⟨b42, hA43⟩ := own_addr (by decide) cellsE_len row_m28 he41
      refine WL.index A1 L.length c1 27 .i64 (k : Int) b42 0 k 10 (by kernel_rfl) hA43 (by omega) (by omega) (k * 10) (by first | (simp; done) | omega) ?_
      refine WL.load 34 (.pointer (some ⟨b42, k * 10, none⟩)) (.agg #[.int .i64 e40.flow.proto, .int .u32 e40.flow.src, .int .i64 e40.flow.sport, .int .u32 e40.flow.dst, .int .i64 e40.flow.dport, .int .u32 e40.dip, .int .i64 e40.epoch, .bool e40.trusted, .bool e40.closing, .int .i64 e40.last]) 28 (by kernel_rfl) (run_rdN (l := [.int .i64 e40.flow.proto, .int .u32 e40.flow.src, .int .i64 e40.flow.sport, .int .u32 e40.flow.dst, .int .i64 e40.flow.dport, .int .u32 e40.dip, .int .i64 e40.epoch, .bool e40.trusted, .bool e40.closing, .int .i64 e40.last]) rfl rfl (fun j u hu => by have hq_ := Rd.cell (own_rd row_m28 cellsE_len (by decide)) hA43 he41 j u hu; simpa [Nat.add_assoc] using hq_)) ?_
      have hlst_ := hls _ (List.mem_of_getElem? he41)
      have hgb_ := goodTime_bd2 t14
      refine WL.newM hC30 (fun b => .pointer (some ⟨b, 0, none⟩)) (.cells #[.int .i64 0, .int .u32 0, .int .i64 0, .int .u32 0, .int .i64 0, .int .u32 0, .int .i64 0, .bool false, .bool false, .int .i64 0] 34) 8 (fun _ => by kernel_rfl) (fun g45 w46 hb49 hF47 hC48 => ?_)
      have ho50 := own_fr row_m28 hF47 (by simp)
      have ho51 := own_fr hout5 hF47 (by simp)
      have ho52 := own_fr hleft6 hF47 (by simp)
      refine WL.storeM (c' := #[.int .i64 e40.flow.proto, .int .u32 e40.flow.src, .int .i64 e40.flow.sport, .int .u32 e40.flow.dst, .int .i64 e40.flow.dport, .int .u32 e40.dip, .int .i64 e40.epoch, .bool e40.trusted, .bool e40.closing, .int .i64 e40.last]) hC48 1 34 g45 0 (.agg #[.int .i64 e40.flow.proto, .int .u32 e40.flow.src, .int .i64 e40.flow.sport, .int .u32 e40.flow.dst, .int .i64 e40.flow.dport, .int .u32 e40.dip, .int .i64 e40.epoch, .bool e40.trusted, .bool e40.closing, .int .i64 e40.last]) (by kernel_rfl) rfl (by kernel_rfl) (fun w53 hF55 hC56 => ?_)
      have ho57 := own_fr ho50 hF55 (hC48.apartM 0 1 rfl rfl)
      have ho58 := own_fr ho51 hF55 (hC48.apartM 1 1 rfl rfl)
      have ho59 := own_fr ho52 hF55 (hC48.apartM 2 1 rfl rfl)
      refine WL.done rfl ?_
      refine QX.then_normal (hK39 _ _ ?_)
      refine WC.seq (fun K60 hK61 => ?_)
      refine WC.region ?_
      refine WL.runs 1 [(9, .int .i64 10)] (fun _ => by kernel_rfl) ?_
      refine WL.done rfl ?_
      refine QX.then_normal (hK61 _ _ ?_)
      refine WC.seq (fun K62 hK63 => ?_)
      refine WC.seq (fun K64 hK65 => ?_)
      refine WC.region ?_
      refine WL.runs 1 [(29, .pointer (some ⟨g45, 7, none⟩))] (fun _ => by kernel_rfl) ?_
      refine WL.load 4 (.pointer (some ⟨g45, 7, none⟩)) (.bool e40.trusted) 30 (by kernel_rfl) (run_ld (hC56.get 1 rfl) rfl) ?_
      refine WL.done rfl ?_
      refine QX.then_normal (hK65 _ _ ?_)
      refine WC.test_at 30 (e40.trusted) rfl (fun t66b => ?_) (fun t66b => ?_)
      · -- e40.trusted = true: true
        refine WC.cond_true rfl ?_
        refine WC.region ?_
        refine WL.runs 1 [(9, .int .i64 60)] (fun _ => by kernel_rfl) ?_
        refine WL.done rfl ?_
        refine QX.then_normal (hK63 _ _ ?_)
        refine WC.seq (fun K67 hK68 => ?_)
        refine WC.seq (fun K69 hK70 => ?_)
        refine WC.region ?_
        refine WL.runs 1 [(31, .pointer (some ⟨g45, 8, none⟩))] (fun _ => by kernel_rfl) ?_
        refine WL.load 4 (.pointer (some ⟨g45, 8, none⟩)) (.bool e40.closing) 32 (by kernel_rfl) (run_ld (hC56.get 1 rfl) rfl) ?_
        refine WL.done rfl ?_
        refine QX.then_normal (hK70 _ _ ?_)
        refine WC.test_at 32 (e40.closing) rfl (fun t71b => ?_) (fun t71b => ?_)
        · -- e40.closing = true: true
          refine WC.cond_true rfl ?_
          refine WC.region ?_
          refine WL.runs 1 [(9, .int .i64 5)] (fun _ => by kernel_rfl) ?_
          refine WL.done rfl ?_
          refine QX.then_normal (hK68 _ _ ?_)
          refine WC.seq (fun K72 hK73 => ?_)
          refine WC.region ?_
          refine WL.runs 2 [(34, .pointer (some ⟨g45, 9, none⟩)), (33, .int .i64 now)] (fun _ => by kernel_rfl) ?_
          refine WL.load 3 (.pointer (some ⟨g45, 9, none⟩)) (.int .i64 e40.last) 35 (by kernel_rfl) (run_ld (hC56.get 1 rfl) rfl) ?_
          refine WL.runs 1 [(36, .int .i64 (IntKind.i64.wrap (now - e40.last)))] (fun _ => by kernel_rfl) ?_
          refine WL.recast (show (.int .i64 (IntKind.i64.wrap (now - e40.last)) : Value) = .int .i64 (now - e40.last) from by rw [wrap_in_i64 (now - e40.last) (by omega) (by omega)]) ?_
          refine WL.runs 2 [(38, .bool (decide ((now - e40.last) > 5))), (37, .int .i64 5)] (fun _ => by kernel_rfl) ?_
          refine WL.done rfl ?_
          refine QX.then_normal (hK73 _ _ ?_)
          refine WC.test_at 38 (decide ((now - e40.last) > 5)) rfl (fun t74b => ?_) (fun t74b => ?_)
          · -- (now - e40.last) > 5: true
            have t74 : (5 : Int) < (now - e40.last) := by have q_ := of_decide_eq_true t74b; omega
            refine WC.cond_true rfl ?_
            refine WC.region ?_
            refine WL.runs 2 [(40, .pointer (some ⟨g45, 0, none⟩)), (39, .slice A5 n5 c5)] (fun _ => by kernel_rfl) ?_
            refine WL.load 32 (.pointer (some ⟨g45, 0, none⟩)) (.agg #[.int .i64 e40.flow.proto, .int .u32 e40.flow.src, .int .i64 e40.flow.sport, .int .u32 e40.flow.dst, .int .i64 e40.flow.dport]) 41 (by kernel_rfl) (run_ld (hC56.get 1 rfl) rfl) ?_
            refine WL.newM hC56 (fun b => .slice (some ⟨b, 0, none⟩) 1 1) (.cells #[.int .i64 e40.flow.proto, .int .u32 e40.flow.src, .int .i64 e40.flow.sport, .int .u32 e40.flow.dst, .int .i64 e40.flow.dport] 32) 42 (fun _ => by kernel_rfl) (fun g75 w76 hb79 hF77 hC78 => ?_)
            have ho80 := own_fr ho57 hF77 (by simp)
            have ho81 := own_fr ho58 hF77 (by simp)
            have ho82 := own_fr ho59 hF77 (by simp)
            obtain ⟨v83, w84, hr85, ho86, hF87, hC88, hnil89, hsub90⟩ := app_run Try.prog hC78 1 (v := .slice A5 n5 c5) rfl 41 41 32 5 40 n5 1 1 (some ⟨g75, 0, none⟩) rfl ho81 [.int .i64 e40.flow.proto, .int .u32 e40.flow.src, .int .i64 e40.flow.sport, .int .u32 e40.flow.dst, .int .i64 e40.flow.dport] rfl (srcOk.blk 1 (hC78.get 2 rfl)) rfl (by simp only [maxLen]; omega) (by omega)
            have ho94 := own_snoc (enc := cellsF) (ys := (((L.take k).filter (idleB · now)).map (·.flow))) e40.flow ho86
            obtain ⟨A91, c92, rfl, hle93⟩ := own_form ho94
            refine WL.sem (Builtin.append_ #[41, 41] 41 #[.slice A5 n5 c5, .slice (some ⟨g75, 0, none⟩) 1 1]) 43 (.slice A91 (n5 + 1) c92) (by kernel_rfl) hr85 ?_
            have ho95 := own_fr ho80 hF87 (hC78.disj 0 1 rfl rfl (by decide))
            have ho96 := own_fr ho82 hF87 (hC78.disj 2 1 rfl rfl (by decide))
            refine WL.runs 1 [(5, .slice A91 (n5 + 1) c92)] (fun _ => by kernel_rfl) ?_
            refine WL.done rfl ?_
            refine QX.block_normal ?_
            refine QX.then_normal (hK37 _ _ ?_)
            refine WC.region ?_
            refine WL.runs 2 [(21, .int .i64 (IntKind.i64.wrap ((k : Int) + 1))), (20, .int .i64 (k : Int))] (fun _ => by kernel_rfl) ?_
            refine WL.recast (show (.int .i64 (IntKind.i64.wrap ((k : Int) + 1)) : Value) = .int .i64 ((k : Int) + 1) from by rw [wrap_in_i64 ((k : Int) + 1) (by omega) (by omega)]) ?_
            refine WL.runs 1 [(7, .int .i64 ((k : Int) + 1))] (fun _ => by kernel_rfl) ?_
            refine WL.done rfl ?_
            refine QX.then_normal ?_
            have hC97 := hC88.pick [0] [0, 1, 2] rfl rfl
            have hidle_ : idleB e40 now = true := by unfold idleB; simp [t66b, t71b]; omega
            refine fun a_ ha_ => hK26 _ _ _ ?_ ⟨k + 1, A91, n5 + 1, c92, A6, n6, c6, rfl, rfl, hC97, ho95, by rw [idle_snoc he41, hidle_]; exact ho94, by rw [filt_snoc _ he41, hidle_]; rw [if_neg (by decide), List.append_nil]; exact ho96, by omega⟩ a_ (ha_.weaken (sub_of ⟨rfl, rfl, rfl, rfl, rfl, trivial⟩))
            omega
          · -- (now - e40.last) > 5: false
            have t74 : (now - e40.last) ≤ 5 := by have q_ := of_decide_eq_false t74b; omega
            refine WC.cond_false rfl ?_
            refine WC.region ?_
            refine WL.runs 1 [(44, .slice A6 n6 c6)] (fun _ => by kernel_rfl) ?_
            refine WL.load 34 (.pointer (some ⟨g45, 0, none⟩)) (.agg #[.int .i64 e40.flow.proto, .int .u32 e40.flow.src, .int .i64 e40.flow.sport, .int .u32 e40.flow.dst, .int .i64 e40.flow.dport, .int .u32 e40.dip, .int .i64 e40.epoch, .bool e40.trusted, .bool e40.closing, .int .i64 e40.last]) 45 (by kernel_rfl) (run_ld (hC56.get 1 rfl) rfl) ?_
            refine WL.newM hC56 (fun b => .slice (some ⟨b, 0, none⟩) 1 1) (.cells #[.int .i64 e40.flow.proto, .int .u32 e40.flow.src, .int .i64 e40.flow.sport, .int .u32 e40.flow.dst, .int .i64 e40.flow.dport, .int .u32 e40.dip, .int .i64 e40.epoch, .bool e40.trusted, .bool e40.closing, .int .i64 e40.last] 34) 46 (fun _ => by kernel_rfl) (fun g98 w99 hb102 hF100 hC101 => ?_)
            have ho103 := own_fr ho57 hF100 (by simp)
            have ho104 := own_fr ho58 hF100 (by simp)
            have ho105 := own_fr ho59 hF100 (by simp)
            obtain ⟨v106, w107, hr108, ho109, hF110, hC111, hnil112, hsub113⟩ := app_run Try.prog hC101 2 (v := .slice A6 n6 c6) rfl 44 44 34 10 72 n6 1 1 (some ⟨g98, 0, none⟩) rfl ho105 [.int .i64 e40.flow.proto, .int .u32 e40.flow.src, .int .i64 e40.flow.sport, .int .u32 e40.flow.dst, .int .i64 e40.flow.dport, .int .u32 e40.dip, .int .i64 e40.epoch, .bool e40.trusted, .bool e40.closing, .int .i64 e40.last] rfl (srcOk.blk 1 (hC101.get 2 rfl)) rfl (by simp only [maxLen]; omega) (by omega)
            have ho117 := own_snoc (enc := cellsE) (ys := ((L.take k).filter (fun e => !idleB e now))) e40 ho109
            obtain ⟨A114, c115, rfl, hle116⟩ := own_form ho117
            refine WL.sem (Builtin.append_ #[44, 44] 44 #[.slice A6 n6 c6, .slice (some ⟨g98, 0, none⟩) 1 1]) 47 (.slice A114 (n6 + 1) c115) (by kernel_rfl) hr108 ?_
            have ho118 := own_fr ho103 hF110 (hC101.disj 0 2 rfl rfl (by decide))
            have ho119 := own_fr ho104 hF110 (hC101.disj 1 2 rfl rfl (by decide))
            refine WL.runs 1 [(6, .slice A114 (n6 + 1) c115)] (fun _ => by kernel_rfl) ?_
            refine WL.done rfl ?_
            refine QX.block_normal ?_
            refine QX.then_normal (hK37 _ _ ?_)
            refine WC.region ?_
            refine WL.runs 2 [(21, .int .i64 (IntKind.i64.wrap ((k : Int) + 1))), (20, .int .i64 (k : Int))] (fun _ => by kernel_rfl) ?_
            refine WL.recast (show (.int .i64 (IntKind.i64.wrap ((k : Int) + 1)) : Value) = .int .i64 ((k : Int) + 1) from by rw [wrap_in_i64 ((k : Int) + 1) (by omega) (by omega)]) ?_
            refine WL.runs 1 [(7, .int .i64 ((k : Int) + 1))] (fun _ => by kernel_rfl) ?_
            refine WL.done rfl ?_
            refine QX.then_normal ?_
            have hC120 := hC111.pick [0] [0, 1, 2] rfl rfl
            have hidle_ : idleB e40 now = false := by unfold idleB; simp [t66b, t71b]; omega
            refine fun a_ ha_ => hK26 _ _ _ ?_ ⟨k + 1, A5, n5, c5, A114, n6 + 1, c115, rfl, rfl, hC120, ho118, by rw [idle_snoc he41, hidle_]; rw [if_neg (by decide), List.append_nil]; exact ho119, by rw [filt_snoc _ he41, hidle_]; exact ho117, by omega⟩ a_ (ha_.weaken (sub_of ⟨rfl, rfl, rfl, rfl, rfl, trivial⟩))
            omega
        · -- e40.closing = true: false
          refine WC.cond_false rfl ?_
          refine WC.skip ?_
          refine QX.then_normal (hK68 _ _ ?_)
          refine WC.seq (fun K121 hK122 => ?_)
          refine WC.region ?_
          refine WL.runs 2 [(34, .pointer (some ⟨g45, 9, none⟩)), (33, .int .i64 now)] (fun _ => by kernel_rfl) ?_
          refine WL.load 3 (.pointer (some ⟨g45, 9, none⟩)) (.int .i64 e40.last) 35 (by kernel_rfl) (run_ld (hC56.get 1 rfl) rfl) ?_
          refine WL.runs 1 [(36, .int .i64 (IntKind.i64.wrap (now - e40.last)))] (fun _ => by kernel_rfl) ?_
          refine WL.recast (show (.int .i64 (IntKind.i64.wrap (now - e40.last)) : Value) = .int .i64 (now - e40.last) from by rw [wrap_in_i64 (now - e40.last) (by omega) (by omega)]) ?_
          refine WL.runs 2 [(38, .bool (decide ((now - e40.last) > 60))), (37, .int .i64 60)] (fun _ => by kernel_rfl) ?_
          refine WL.done rfl ?_
          refine QX.then_normal (hK122 _ _ ?_)
          refine WC.test_at 38 (decide ((now - e40.last) > 60)) rfl (fun t123b => ?_) (fun t123b => ?_)
          · -- (now - e40.last) > 60: true
            have t123 : (60 : Int) < (now - e40.last) := by have q_ := of_decide_eq_true t123b; omega
            refine WC.cond_true rfl ?_
            refine WC.region ?_
            refine WL.runs 2 [(40, .pointer (some ⟨g45, 0, none⟩)), (39, .slice A5 n5 c5)] (fun _ => by kernel_rfl) ?_
            refine WL.load 32 (.pointer (some ⟨g45, 0, none⟩)) (.agg #[.int .i64 e40.flow.proto, .int .u32 e40.flow.src, .int .i64 e40.flow.sport, .int .u32 e40.flow.dst, .int .i64 e40.flow.dport]) 41 (by kernel_rfl) (run_ld (hC56.get 1 rfl) rfl) ?_
            refine WL.newM hC56 (fun b => .slice (some ⟨b, 0, none⟩) 1 1) (.cells #[.int .i64 e40.flow.proto, .int .u32 e40.flow.src, .int .i64 e40.flow.sport, .int .u32 e40.flow.dst, .int .i64 e40.flow.dport] 32) 42 (fun _ => by kernel_rfl) (fun g124 w125 hb128 hF126 hC127 => ?_)
            have ho129 := own_fr ho57 hF126 (by simp)
            have ho130 := own_fr ho58 hF126 (by simp)
            have ho131 := own_fr ho59 hF126 (by simp)
            obtain ⟨v132, w133, hr134, ho135, hF136, hC137, hnil138, hsub139⟩ := app_run Try.prog hC127 1 (v := .slice A5 n5 c5) rfl 41 41 32 5 40 n5 1 1 (some ⟨g124, 0, none⟩) rfl ho130 [.int .i64 e40.flow.proto, .int .u32 e40.flow.src, .int .i64 e40.flow.sport, .int .u32 e40.flow.dst, .int .i64 e40.flow.dport] rfl (srcOk.blk 1 (hC127.get 2 rfl)) rfl (by simp only [maxLen]; omega) (by omega)
            have ho143 := own_snoc (enc := cellsF) (ys := (((L.take k).filter (idleB · now)).map (·.flow))) e40.flow ho135
            obtain ⟨A140, c141, rfl, hle142⟩ := own_form ho143
            refine WL.sem (Builtin.append_ #[41, 41] 41 #[.slice A5 n5 c5, .slice (some ⟨g124, 0, none⟩) 1 1]) 43 (.slice A140 (n5 + 1) c141) (by kernel_rfl) hr134 ?_
            have ho144 := own_fr ho129 hF136 (hC127.disj 0 1 rfl rfl (by decide))
            have ho145 := own_fr ho131 hF136 (hC127.disj 2 1 rfl rfl (by decide))
            refine WL.runs 1 [(5, .slice A140 (n5 + 1) c141)] (fun _ => by kernel_rfl) ?_
            refine WL.done rfl ?_
            refine QX.block_normal ?_
            refine QX.then_normal (hK37 _ _ ?_)
            refine WC.region ?_
            refine WL.runs 2 [(21, .int .i64 (IntKind.i64.wrap ((k : Int) + 1))), (20, .int .i64 (k : Int))] (fun _ => by kernel_rfl) ?_
            refine WL.recast (show (.int .i64 (IntKind.i64.wrap ((k : Int) + 1)) : Value) = .int .i64 ((k : Int) + 1) from by rw [wrap_in_i64 ((k : Int) + 1) (by omega) (by omega)]) ?_
            refine WL.runs 1 [(7, .int .i64 ((k : Int) + 1))] (fun _ => by kernel_rfl) ?_
            refine WL.done rfl ?_
            refine QX.then_normal ?_
            have hC146 := hC137.pick [0] [0, 1, 2] rfl rfl
            have hidle_ : idleB e40 now = true := by unfold idleB; simp [t66b, t71b]; omega
            refine fun a_ ha_ => hK26 _ _ _ ?_ ⟨k + 1, A140, n5 + 1, c141, A6, n6, c6, rfl, rfl, hC146, ho144, by rw [idle_snoc he41, hidle_]; exact ho143, by rw [filt_snoc _ he41, hidle_]; rw [if_neg (by decide), List.append_nil]; exact ho145, by omega⟩ a_ (ha_.weaken (sub_of ⟨rfl, rfl, rfl, rfl, rfl, trivial⟩))
            omega
          · -- (now - e40.last) > 60: false
            have t123 : (now - e40.last) ≤ 60 := by have q_ := of_decide_eq_false t123b; omega
            refine WC.cond_false rfl ?_
            refine WC.region ?_
            refine WL.runs 1 [(44, .slice A6 n6 c6)] (fun _ => by kernel_rfl) ?_
            refine WL.load 34 (.pointer (some ⟨g45, 0, none⟩)) (.agg #[.int .i64 e40.flow.proto, .int .u32 e40.flow.src, .int .i64 e40.flow.sport, .int .u32 e40.flow.dst, .int .i64 e40.flow.dport, .int .u32 e40.dip, .int .i64 e40.epoch, .bool e40.trusted, .bool e40.closing, .int .i64 e40.last]) 45 (by kernel_rfl) (run_ld (hC56.get 1 rfl) rfl) ?_
            refine WL.newM hC56 (fun b => .slice (some ⟨b, 0, none⟩) 1 1) (.cells #[.int .i64 e40.flow.proto, .int .u32 e40.flow.src, .int .i64 e40.flow.sport, .int .u32 e40.flow.dst, .int .i64 e40.flow.dport, .int .u32 e40.dip, .int .i64 e40.epoch, .bool e40.trusted, .bool e40.closing, .int .i64 e40.last] 34) 46 (fun _ => by kernel_rfl) (fun g147 w148 hb151 hF149 hC150 => ?_)
            have ho152 := own_fr ho57 hF149 (by simp)
            have ho153 := own_fr ho58 hF149 (by simp)
            have ho154 := own_fr ho59 hF149 (by simp)
            obtain ⟨v155, w156, hr157, ho158, hF159, hC160, hnil161, hsub162⟩ := app_run Try.prog hC150 2 (v := .slice A6 n6 c6) rfl 44 44 34 10 72 n6 1 1 (some ⟨g147, 0, none⟩) rfl ho154 [.int .i64 e40.flow.proto, .int .u32 e40.flow.src, .int .i64 e40.flow.sport, .int .u32 e40.flow.dst, .int .i64 e40.flow.dport, .int .u32 e40.dip, .int .i64 e40.epoch, .bool e40.trusted, .bool e40.closing, .int .i64 e40.last] rfl (srcOk.blk 1 (hC150.get 2 rfl)) rfl (by simp only [maxLen]; omega) (by omega)
            have ho166 := own_snoc (enc := cellsE) (ys := ((L.take k).filter (fun e => !idleB e now))) e40 ho158
            obtain ⟨A163, c164, rfl, hle165⟩ := own_form ho166
            refine WL.sem (Builtin.append_ #[44, 44] 44 #[.slice A6 n6 c6, .slice (some ⟨g147, 0, none⟩) 1 1]) 47 (.slice A163 (n6 + 1) c164) (by kernel_rfl) hr157 ?_
            have ho167 := own_fr ho152 hF159 (hC150.disj 0 2 rfl rfl (by decide))
            have ho168 := own_fr ho153 hF159 (hC150.disj 1 2 rfl rfl (by decide))
            refine WL.runs 1 [(6, .slice A163 (n6 + 1) c164)] (fun _ => by kernel_rfl) ?_
            refine WL.done rfl ?_
            refine QX.block_normal ?_
            refine QX.then_normal (hK37 _ _ ?_)
            refine WC.region ?_
            refine WL.runs 2 [(21, .int .i64 (IntKind.i64.wrap ((k : Int) + 1))), (20, .int .i64 (k : Int))] (fun _ => by kernel_rfl) ?_
            refine WL.recast (show (.int .i64 (IntKind.i64.wrap ((k : Int) + 1)) : Value) = .int .i64 ((k : Int) + 1) from by rw [wrap_in_i64 ((k : Int) + 1) (by omega) (by omega)]) ?_
            refine WL.runs 1 [(7, .int .i64 ((k : Int) + 1))] (fun _ => by kernel_rfl) ?_
            refine WL.done rfl ?_
            refine QX.then_normal ?_
            have hC169 := hC160.pick [0] [0, 1, 2] rfl rfl
            have hidle_ : idleB e40 now = false := by unfold idleB; simp [t66b, t71b]; omega
            refine fun a_ ha_ => hK26 _ _ _ ?_ ⟨k + 1, A5, n5, c5, A163, n6 + 1, c164, rfl, rfl, hC169, ho167, by rw [idle_snoc he41, hidle_]; rw [if_neg (by decide), List.append_nil]; exact ho168, by rw [filt_snoc _ he41, hidle_]; exact ho166, by omega⟩ a_ (ha_.weaken (sub_of ⟨rfl, rfl, rfl, rfl, rfl, trivial⟩))
            omega
      · -- e40.trusted = true: false
        refine WC.cond_false rfl ?_
        refine WC.skip ?_
        refine QX.then_normal (hK63 _ _ ?_)
        refine WC.seq (fun K170 hK171 => ?_)
        refine WC.seq (fun K172 hK173 => ?_)
        refine WC.region ?_
        refine WL.runs 1 [(31, .pointer (some ⟨g45, 8, none⟩))] (fun _ => by kernel_rfl) ?_
        refine WL.load 4 (.pointer (some ⟨g45, 8, none⟩)) (.bool e40.closing) 32 (by kernel_rfl) (run_ld (hC56.get 1 rfl) rfl) ?_
        refine WL.done rfl ?_
        refine QX.then_normal (hK173 _ _ ?_)
        refine WC.test_at 32 (e40.closing) rfl (fun t174b => ?_) (fun t174b => ?_)
        · -- e40.closing = true: true
          refine WC.cond_true rfl ?_
          refine WC.region ?_
          refine WL.runs 1 [(9, .int .i64 5)] (fun _ => by kernel_rfl) ?_
          refine WL.done rfl ?_
          refine QX.then_normal (hK171 _ _ ?_)
          refine WC.seq (fun K175 hK176 => ?_)
          refine WC.region ?_
          refine WL.runs 2 [(34, .pointer (some ⟨g45, 9, none⟩)), (33, .int .i64 now)] (fun _ => by kernel_rfl) ?_
          refine WL.load 3 (.pointer (some ⟨g45, 9, none⟩)) (.int .i64 e40.last) 35 (by kernel_rfl) (run_ld (hC56.get 1 rfl) rfl) ?_
          refine WL.runs 1 [(36, .int .i64 (IntKind.i64.wrap (now - e40.last)))] (fun _ => by kernel_rfl) ?_
          refine WL.recast (show (.int .i64 (IntKind.i64.wrap (now - e40.last)) : Value) = .int .i64 (now - e40.last) from by rw [wrap_in_i64 (now - e40.last) (by omega) (by omega)]) ?_
          refine WL.runs 2 [(38, .bool (decide ((now - e40.last) > 5))), (37, .int .i64 5)] (fun _ => by kernel_rfl) ?_
          refine WL.done rfl ?_
          refine QX.then_normal (hK176 _ _ ?_)
          refine WC.test_at 38 (decide ((now - e40.last) > 5)) rfl (fun t177b => ?_) (fun t177b => ?_)
          · -- (now - e40.last) > 5: true
            have t177 : (5 : Int) < (now - e40.last) := by have q_ := of_decide_eq_true t177b; omega
            refine WC.cond_true rfl ?_
            refine WC.region ?_
            refine WL.runs 2 [(40, .pointer (some ⟨g45, 0, none⟩)), (39, .slice A5 n5 c5)] (fun _ => by kernel_rfl) ?_
            refine WL.load 32 (.pointer (some ⟨g45, 0, none⟩)) (.agg #[.int .i64 e40.flow.proto, .int .u32 e40.flow.src, .int .i64 e40.flow.sport, .int .u32 e40.flow.dst, .int .i64 e40.flow.dport]) 41 (by kernel_rfl) (run_ld (hC56.get 1 rfl) rfl) ?_
            refine WL.newM hC56 (fun b => .slice (some ⟨b, 0, none⟩) 1 1) (.cells #[.int .i64 e40.flow.proto, .int .u32 e40.flow.src, .int .i64 e40.flow.sport, .int .u32 e40.flow.dst, .int .i64 e40.flow.dport] 32) 42 (fun _ => by kernel_rfl) (fun g178 w179 hb182 hF180 hC181 => ?_)
            have ho183 := own_fr ho57 hF180 (by simp)
            have ho184 := own_fr ho58 hF180 (by simp)
            have ho185 := own_fr ho59 hF180 (by simp)
            obtain ⟨v186, w187, hr188, ho189, hF190, hC191, hnil192, hsub193⟩ := app_run Try.prog hC181 1 (v := .slice A5 n5 c5) rfl 41 41 32 5 40 n5 1 1 (some ⟨g178, 0, none⟩) rfl ho184 [.int .i64 e40.flow.proto, .int .u32 e40.flow.src, .int .i64 e40.flow.sport, .int .u32 e40.flow.dst, .int .i64 e40.flow.dport] rfl (srcOk.blk 1 (hC181.get 2 rfl)) rfl (by simp only [maxLen]; omega) (by omega)
            have ho197 := own_snoc (enc := cellsF) (ys := (((L.take k).filter (idleB · now)).map (·.flow))) e40.flow ho189
            obtain ⟨A194, c195, rfl, hle196⟩ := own_form ho197
            refine WL.sem (Builtin.append_ #[41, 41] 41 #[.slice A5 n5 c5, .slice (some ⟨g178, 0, none⟩) 1 1]) 43 (.slice A194 (n5 + 1) c195) (by kernel_rfl) hr188 ?_
            have ho198 := own_fr ho183 hF190 (hC181.disj 0 1 rfl rfl (by decide))
            have ho199 := own_fr ho185 hF190 (hC181.disj 2 1 rfl rfl (by decide))
            refine WL.runs 1 [(5, .slice A194 (n5 + 1) c195)] (fun _ => by kernel_rfl) ?_
            refine WL.done rfl ?_
            refine QX.block_normal ?_
            refine QX.then_normal (hK37 _ _ ?_)
            refine WC.region ?_
            refine WL.runs 2 [(21, .int .i64 (IntKind.i64.wrap ((k : Int) + 1))), (20, .int .i64 (k : Int))] (fun _ => by kernel_rfl) ?_
            refine WL.recast (show (.int .i64 (IntKind.i64.wrap ((k : Int) + 1)) : Value) = .int .i64 ((k : Int) + 1) from by rw [wrap_in_i64 ((k : Int) + 1) (by omega) (by omega)]) ?_
            refine WL.runs 1 [(7, .int .i64 ((k : Int) + 1))] (fun _ => by kernel_rfl) ?_
            refine WL.done rfl ?_
            refine QX.then_normal ?_
            have hC200 := hC191.pick [0] [0, 1, 2] rfl rfl
            have hidle_ : idleB e40 now = true := by unfold idleB; simp [t66b, t174b]; omega
            refine fun a_ ha_ => hK26 _ _ _ ?_ ⟨k + 1, A194, n5 + 1, c195, A6, n6, c6, rfl, rfl, hC200, ho198, by rw [idle_snoc he41, hidle_]; exact ho197, by rw [filt_snoc _ he41, hidle_]; rw [if_neg (by decide), List.append_nil]; exact ho199, by omega⟩ a_ (ha_.weaken (sub_of ⟨rfl, rfl, rfl, rfl, rfl, trivial⟩))
            omega
          · -- (now - e40.last) > 5: false
            have t177 : (now - e40.last) ≤ 5 := by have q_ := of_decide_eq_false t177b; omega
            refine WC.cond_false rfl ?_
            refine WC.region ?_
            refine WL.runs 1 [(44, .slice A6 n6 c6)] (fun _ => by kernel_rfl) ?_
            refine WL.load 34 (.pointer (some ⟨g45, 0, none⟩)) (.agg #[.int .i64 e40.flow.proto, .int .u32 e40.flow.src, .int .i64 e40.flow.sport, .int .u32 e40.flow.dst, .int .i64 e40.flow.dport, .int .u32 e40.dip, .int .i64 e40.epoch, .bool e40.trusted, .bool e40.closing, .int .i64 e40.last]) 45 (by kernel_rfl) (run_ld (hC56.get 1 rfl) rfl) ?_
            refine WL.newM hC56 (fun b => .slice (some ⟨b, 0, none⟩) 1 1) (.cells #[.int .i64 e40.flow.proto, .int .u32 e40.flow.src, .int .i64 e40.flow.sport, .int .u32 e40.flow.dst, .int .i64 e40.flow.dport, .int .u32 e40.dip, .int .i64 e40.epoch, .bool e40.trusted, .bool e40.closing, .int .i64 e40.last] 34) 46 (fun _ => by kernel_rfl) (fun g201 w202 hb205 hF203 hC204 => ?_)
            have ho206 := own_fr ho57 hF203 (by simp)
            have ho207 := own_fr ho58 hF203 (by simp)
            have ho208 := own_fr ho59 hF203 (by simp)
            obtain ⟨v209, w210, hr211, ho212, hF213, hC214, hnil215, hsub216⟩ := app_run Try.prog hC204 2 (v := .slice A6 n6 c6) rfl 44 44 34 10 72 n6 1 1 (some ⟨g201, 0, none⟩) rfl ho208 [.int .i64 e40.flow.proto, .int .u32 e40.flow.src, .int .i64 e40.flow.sport, .int .u32 e40.flow.dst, .int .i64 e40.flow.dport, .int .u32 e40.dip, .int .i64 e40.epoch, .bool e40.trusted, .bool e40.closing, .int .i64 e40.last] rfl (srcOk.blk 1 (hC204.get 2 rfl)) rfl (by simp only [maxLen]; omega) (by omega)
            have ho220 := own_snoc (enc := cellsE) (ys := ((L.take k).filter (fun e => !idleB e now))) e40 ho212
            obtain ⟨A217, c218, rfl, hle219⟩ := own_form ho220
            refine WL.sem (Builtin.append_ #[44, 44] 44 #[.slice A6 n6 c6, .slice (some ⟨g201, 0, none⟩) 1 1]) 47 (.slice A217 (n6 + 1) c218) (by kernel_rfl) hr211 ?_
            have ho221 := own_fr ho206 hF213 (hC204.disj 0 2 rfl rfl (by decide))
            have ho222 := own_fr ho207 hF213 (hC204.disj 1 2 rfl rfl (by decide))
            refine WL.runs 1 [(6, .slice A217 (n6 + 1) c218)] (fun _ => by kernel_rfl) ?_
            refine WL.done rfl ?_
            refine QX.block_normal ?_
            refine QX.then_normal (hK37 _ _ ?_)
            refine WC.region ?_
            refine WL.runs 2 [(21, .int .i64 (IntKind.i64.wrap ((k : Int) + 1))), (20, .int .i64 (k : Int))] (fun _ => by kernel_rfl) ?_
            refine WL.recast (show (.int .i64 (IntKind.i64.wrap ((k : Int) + 1)) : Value) = .int .i64 ((k : Int) + 1) from by rw [wrap_in_i64 ((k : Int) + 1) (by omega) (by omega)]) ?_
            refine WL.runs 1 [(7, .int .i64 ((k : Int) + 1))] (fun _ => by kernel_rfl) ?_
            refine WL.done rfl ?_
            refine QX.then_normal ?_
            have hC223 := hC214.pick [0] [0, 1, 2] rfl rfl
            have hidle_ : idleB e40 now = false := by unfold idleB; simp [t66b, t174b]; omega
            refine fun a_ ha_ => hK26 _ _ _ ?_ ⟨k + 1, A5, n5, c5, A217, n6 + 1, c218, rfl, rfl, hC223, ho221, by rw [idle_snoc he41, hidle_]; rw [if_neg (by decide), List.append_nil]; exact ho222, by rw [filt_snoc _ he41, hidle_]; exact ho220, by omega⟩ a_ (ha_.weaken (sub_of ⟨rfl, rfl, rfl, rfl, rfl, trivial⟩))
            omega
        · -- e40.closing = true: false
          refine WC.cond_false rfl ?_
          refine WC.skip ?_
          refine QX.then_normal (hK171 _ _ ?_)
          refine WC.seq (fun K224 hK225 => ?_)
          refine WC.region ?_
          refine WL.runs 2 [(34, .pointer (some ⟨g45, 9, none⟩)), (33, .int .i64 now)] (fun _ => by kernel_rfl) ?_
          refine WL.load 3 (.pointer (some ⟨g45, 9, none⟩)) (.int .i64 e40.last) 35 (by kernel_rfl) (run_ld (hC56.get 1 rfl) rfl) ?_
          refine WL.runs 1 [(36, .int .i64 (IntKind.i64.wrap (now - e40.last)))] (fun _ => by kernel_rfl) ?_
          refine WL.recast (show (.int .i64 (IntKind.i64.wrap (now - e40.last)) : Value) = .int .i64 (now - e40.last) from by rw [wrap_in_i64 (now - e40.last) (by omega) (by omega)]) ?_
          refine WL.runs 2 [(38, .bool (decide ((now - e40.last) > 10))), (37, .int .i64 10)] (fun _ => by kernel_rfl) ?_
          refine WL.done rfl ?_
          refine QX.then_normal (hK225 _ _ ?_)
          refine WC.test_at 38 (decide ((now - e40.last) > 10)) rfl (fun t226b => ?_) (fun t226b => ?_)
          · -- (now - e40.last) > 10: true
            have t226 : (10 : Int) < (now - e40.last) := by have q_ := of_decide_eq_true t226b; omega
            refine WC.cond_true rfl ?_
            refine WC.region ?_
            refine WL.runs 2 [(40, .pointer (some ⟨g45, 0, none⟩)), (39, .slice A5 n5 c5)] (fun _ => by kernel_rfl) ?_
            refine WL.load 32 (.pointer (some ⟨g45, 0, none⟩)) (.agg #[.int .i64 e40.flow.proto, .int .u32 e40.flow.src, .int .i64 e40.flow.sport, .int .u32 e40.flow.dst, .int .i64 e40.flow.dport]) 41 (by kernel_rfl) (run_ld (hC56.get 1 rfl) rfl) ?_
            refine WL.newM hC56 (fun b => .slice (some ⟨b, 0, none⟩) 1 1) (.cells #[.int .i64 e40.flow.proto, .int .u32 e40.flow.src, .int .i64 e40.flow.sport, .int .u32 e40.flow.dst, .int .i64 e40.flow.dport] 32) 42 (fun _ => by kernel_rfl) (fun g227 w228 hb231 hF229 hC230 => ?_)
            have ho232 := own_fr ho57 hF229 (by simp)
            have ho233 := own_fr ho58 hF229 (by simp)
            have ho234 := own_fr ho59 hF229 (by simp)
            obtain ⟨v235, w236, hr237, ho238, hF239, hC240, hnil241, hsub242⟩ := app_run Try.prog hC230 1 (v := .slice A5 n5 c5) rfl 41 41 32 5 40 n5 1 1 (some ⟨g227, 0, none⟩) rfl ho233 [.int .i64 e40.flow.proto, .int .u32 e40.flow.src, .int .i64 e40.flow.sport, .int .u32 e40.flow.dst, .int .i64 e40.flow.dport] rfl (srcOk.blk 1 (hC230.get 2 rfl)) rfl (by simp only [maxLen]; omega) (by omega)
            have ho246 := own_snoc (enc := cellsF) (ys := (((L.take k).filter (idleB · now)).map (·.flow))) e40.flow ho238
            obtain ⟨A243, c244, rfl, hle245⟩ := own_form ho246
            refine WL.sem (Builtin.append_ #[41, 41] 41 #[.slice A5 n5 c5, .slice (some ⟨g227, 0, none⟩) 1 1]) 43 (.slice A243 (n5 + 1) c244) (by kernel_rfl) hr237 ?_
            have ho247 := own_fr ho232 hF239 (hC230.disj 0 1 rfl rfl (by decide))
            have ho248 := own_fr ho234 hF239 (hC230.disj 2 1 rfl rfl (by decide))
            refine WL.runs 1 [(5, .slice A243 (n5 + 1) c244)] (fun _ => by kernel_rfl) ?_
            refine WL.done rfl ?_
            refine QX.block_normal ?_
            refine QX.then_normal (hK37 _ _ ?_)
            refine WC.region ?_
            refine WL.runs 2 [(21, .int .i64 (IntKind.i64.wrap ((k : Int) + 1))), (20, .int .i64 (k : Int))] (fun _ => by kernel_rfl) ?_
            refine WL.recast (show (.int .i64 (IntKind.i64.wrap ((k : Int) + 1)) : Value) = .int .i64 ((k : Int) + 1) from by rw [wrap_in_i64 ((k : Int) + 1) (by omega) (by omega)]) ?_
            refine WL.runs 1 [(7, .int .i64 ((k : Int) + 1))] (fun _ => by kernel_rfl) ?_
            refine WL.done rfl ?_
            refine QX.then_normal ?_
            have hC249 := hC240.pick [0] [0, 1, 2] rfl rfl
            have hidle_ : idleB e40 now = true := by unfold idleB; simp [t66b, t174b]; omega
            refine fun a_ ha_ => hK26 _ _ _ ?_ ⟨k + 1, A243, n5 + 1, c244, A6, n6, c6, rfl, rfl, hC249, ho247, by rw [idle_snoc he41, hidle_]; exact ho246, by rw [filt_snoc _ he41, hidle_]; rw [if_neg (by decide), List.append_nil]; exact ho248, by omega⟩ a_ (ha_.weaken (sub_of ⟨rfl, rfl, rfl, rfl, rfl, trivial⟩))
            omega
          · -- (now - e40.last) > 10: false
            have t226 : (now - e40.last) ≤ 10 := by have q_ := of_decide_eq_false t226b; omega
            refine WC.cond_false rfl ?_
            refine WC.region ?_
            refine WL.runs 1 [(44, .slice A6 n6 c6)] (fun _ => by kernel_rfl) ?_
            refine WL.load 34 (.pointer (some ⟨g45, 0, none⟩)) (.agg #[.int .i64 e40.flow.proto, .int .u32 e40.flow.src, .int .i64 e40.flow.sport, .int .u32 e40.flow.dst, .int .i64 e40.flow.dport, .int .u32 e40.dip, .int .i64 e40.epoch, .bool e40.trusted, .bool e40.closing, .int .i64 e40.last]) 45 (by kernel_rfl) (run_ld (hC56.get 1 rfl) rfl) ?_
            refine WL.newM hC56 (fun b => .slice (some ⟨b, 0, none⟩) 1 1) (.cells #[.int .i64 e40.flow.proto, .int .u32 e40.flow.src, .int .i64 e40.flow.sport, .int .u32 e40.flow.dst, .int .i64 e40.flow.dport, .int .u32 e40.dip, .int .i64 e40.epoch, .bool e40.trusted, .bool e40.closing, .int .i64 e40.last] 34) 46 (fun _ => by kernel_rfl) (fun g250 w251 hb254 hF252 hC253 => ?_)
            have ho255 := own_fr ho57 hF252 (by simp)
            have ho256 := own_fr ho58 hF252 (by simp)
            have ho257 := own_fr ho59 hF252 (by simp)
            obtain ⟨v258, w259, hr260, ho261, hF262, hC263, hnil264, hsub265⟩ := app_run Try.prog hC253 2 (v := .slice A6 n6 c6) rfl 44 44 34 10 72 n6 1 1 (some ⟨g250, 0, none⟩) rfl ho257 [.int .i64 e40.flow.proto, .int .u32 e40.flow.src, .int .i64 e40.flow.sport, .int .u32 e40.flow.dst, .int .i64 e40.flow.dport, .int .u32 e40.dip, .int .i64 e40.epoch, .bool e40.trusted, .bool e40.closing, .int .i64 e40.last] rfl (srcOk.blk 1 (hC253.get 2 rfl)) rfl (by simp only [maxLen]; omega) (by omega)
            have ho269 := own_snoc (enc := cellsE) (ys := ((L.take k).filter (fun e => !idleB e now))) e40 ho261
            obtain ⟨A266, c267, rfl, hle268⟩ := own_form ho269
            refine WL.sem (Builtin.append_ #[44, 44] 44 #[.slice A6 n6 c6, .slice (some ⟨g250, 0, none⟩) 1 1]) 47 (.slice A266 (n6 + 1) c267) (by kernel_rfl) hr260 ?_
            have ho270 := own_fr ho255 hF262 (hC253.disj 0 2 rfl rfl (by decide))
            have ho271 := own_fr ho256 hF262 (hC253.disj 1 2 rfl rfl (by decide))
            refine WL.runs 1 [(6, .slice A266 (n6 + 1) c267)] (fun _ => by kernel_rfl) ?_
            refine WL.done rfl ?_
            refine QX.block_normal ?_
            refine QX.then_normal (hK37 _ _ ?_)
            refine WC.region ?_
            refine WL.runs 2 [(21, .int .i64 (IntKind.i64.wrap ((k : Int) + 1))), (20, .int .i64 (k : Int))] (fun _ => by kernel_rfl) ?_
            refine WL.recast (show (.int .i64 (IntKind.i64.wrap ((k : Int) + 1)) : Value) = .int .i64 ((k : Int) + 1) from by rw [wrap_in_i64 ((k : Int) + 1) (by omega) (by omega)]) ?_
            refine WL.runs 1 [(7, .int .i64 ((k : Int) + 1))] (fun _ => by kernel_rfl) ?_
            refine WL.done rfl ?_
            refine QX.then_normal ?_
            have hC272 := hC263.pick [0] [0, 1, 2] rfl rfl
            have hidle_ : idleB e40 now = false := by unfold idleB; simp [t66b, t174b]; omega
            refine fun a_ ha_ => hK26 _ _ _ ?_ ⟨k + 1, A5, n5, c5, A266, n6 + 1, c267, rfl, rfl, hC272, ho270, by rw [idle_snoc he41, hidle_]; rw [if_neg (by decide), List.append_nil]; exact ho271, by rw [filt_snoc _ he41, hidle_]; exact ho269, by omega⟩ a_ (ha_.weaken (sub_of ⟨rfl, rfl, rfl, rfl, rfl, trivial⟩))
            omega
    · -- (k : Int) < (L.length : Int): false
      have t35 : (L.length : Int) ≤ (k : Int) := by have q_ := of_decide_eq_false t35b; omega
      refine WC.cond_false rfl ?_
      refine WC.exit ?_
      refine QX.then_exit ?_
      refine QX.then_exit ?_
      refine QX.block_hit ?_
      refine QX.then_normal (hK20 _ _ ?_)
      refine WC.seq (fun K273 hK274 => ?_)
      refine WC.region ?_
      refine WL.runs 4 [(51, .pointer (some ⟨p, 0, none⟩)), (50, .pointer (some ⟨p, 0, none⟩)), (49, .slice A6 n6 c6), (48, .pointer (some ⟨p, 0, none⟩))] (fun _ => by kernel_rfl) ?_
      refine WL.storeM (c' := #[.slice A6 n6 c6, .int .i64 tr, .int .i64 un]) hC30 0 44 p 0 (.slice A6 n6 c6) (by kernel_rfl) rfl (by kernel_rfl) (fun w275 hF277 hC278 => ?_)
      have ho279 := own_fr row_m28 hF277 (hC30.apartM 0 0 rfl rfl)
      have ho280 := own_fr hout5 hF277 (hC30.apartM 1 0 rfl rfl)
      have ho281 := own_fr hleft6 hF277 (hC30.apartM 2 0 rfl rfl)
      refine WL.done rfl ?_
      refine QX.then_normal (hK274 _ _ ?_)
      refine WC.seq (fun K282 hK283 => ?_)
      refine WC.region ?_
      refine WL.runs 2 [(4, .slice A5 n5 c5), (52, .slice A5 n5 c5)] (fun _ => by kernel_rfl) ?_
      refine WL.done rfl ?_
      refine QX.then_normal (hK283 _ _ ?_)
      refine WC.ret ?_
      refine (hret _ _ _ rfl ?_).1
      clear hN hret hret' hK283 hK274 hK34 hK32 hK22 hK20 hK18 hK8 hK6 hK4 hK2
      have hk2_ : L.take k = L := take_all_of (by omega)
      have ho_ := ho280
      have hl_ := ho281
      rw [hk2_] at ho_ hl_ hcn5_
      have ho2_ : exE L now = ((L.filter (idleB · now)).map (·.flow), L.filter (fun e => !idleB e now)) := by unfold exE; rw [if_pos t14]
      rw [ho2_]
      rw [← List.length_map (f := (·.flow))] at hcn5_
      subst hcn5_
      exact ⟨_, _, rfl, hC278.fr, df_mk hC278 0 2 rfl rfl hl_, fun x_ hx_ => (List.mem_cons.1 hx_).elim (fun e_ => by subst e_; exact .inl List.mem_cons_self) (fun h_ => hC278.ownF _ (List.mem_of_getElem? (show _[2]? = some (blk (.slice A6 n6 c6)) from rfl)) x_ h_), own_base ho_ (newF_of hC278 1 rfl (fun x_ hx_ => dfAt_lt ht0 x_ hx_) (fun q_ hq_ => (List.mem_cons.1 hq_).elim (fun e_ => by subst e_; exact hC278.notin 1 0 rfl rfl) (hC278.disj 0 1 rfl rfl (by decide) q_))), fun x_ hx_ h_ => (List.mem_cons.1 h_).elim (fun e_ => by subst e_; exact hC278.notin 1 0 rfl rfl hx_) (fun h2_ => hC278.disj 1 2 rfl rfl (by decide) x_ hx_ h2_)⟩

set_option maxHeartbeats 2000000 in
theorem RRemove_ct (F : List Nat) (p : Nat) (L : List Ent) (tr un : Int) (A : Option Addr) (c : Nat) (fs : List Flow) (w : World) (ht : dfAt w F p L tr un) (hnd : (L.map (·.flow)).Nodup) (hlm : L.length ≤ 1000000) (hks : Rd w 5 cellsF A fs) (hkl : fs.length ≤ 1099511627776) (hAF : ∀ b off, A = some ⟨b, off, none⟩ → fs ≠ [] → b ∉ F) : Calls Try.prog 25 #[.pointer (some ⟨p, 0, none⟩), .slice A fs.length c] w fun e w' => ∃ F2, e = .returned (.int .i64 (fs.foldl remL (L, 0)).2) ∧ Fr w w' F ∧ dfAt w' F2 p (fs.foldl remL (L, 0)).1 tr un ∧ ∀ x ∈ F2, x ∈ F ∨ w.heap.size ≤ x := by
  refine enterD (n := 28) Try.func25 rfl rfl (Nat.le_of_ble_eq_true rfl) ?_
  intro Q0 hN hret hret'
  have ht0 := ht
  obtain ⟨A1, c1, hp_, ho_, rfl, hn_⟩ := ht
  have hC := Cx.openR hp_ (own_lt ho_) hn_
  have hmx_ := own_max ho_
  refine WC.seq (fun K1 hK2 => ?_)
  refine WC.region ?_
  refine WL.runs 1 [(4, .int .i64 0)] (fun _ => by kernel_rfl) ?_
  refine WL.done rfl ?_
  refine QX.then_normal (hK2 _ _ ?_)
  refine WC.seq (fun K3 hK4 => ?_)
  refine WC.region ?_
  refine WL.runs 1 [(5, .int .i64 0)] (fun _ => by kernel_rfl) ?_
  refine WL.done rfl ?_
  refine QX.then_normal (hK4 _ _ ?_)
  refine WC.seq (fun K5 hK6 => ?_)
  refine WC.seq (fun K7 hK8 => ?_)
  refine WC.region ?_
  refine WL.runs 1 [(6, .int .i64 0)] (fun _ => by kernel_rfl) ?_
  refine WL.done rfl ?_
  refine QX.then_normal (hK8 _ _ ?_)
  refine WC.block ?_
  refine WC.loop (fun m_ E_ w_ => ∃ (k : Nat) (A5 : Option Addr) (n5 c5 : Nat) (cn : Int), m_ = fs.length - k ∧ E_ = [(0, .pointer (some ⟨p, 0, none⟩)), (1, .slice A fs.length c), (5, .int .i64 cn), (6, .int .i64 (k : Int))] ∧ Cx w (p :: blk (.slice A1 L.length c1)) w_ [(p, .cells #[.slice A5 n5 c5, .int .i64 tr, .int .i64 un] 51)] [blk (.slice A5 n5 c5)] ∧ World.ownsRow w_ 0 34 10 (.slice A5 n5 c5) n5 ((((fs.take k).foldl remL (L, 0)).1).flatMap cellsE) ∧ (k ≤ fs.length ∧ cn = ((fs.take k).foldl remL (L, 0)).2)) ⟨_, _, ⟨0, A1, L.length, c1, 0, rfl, rfl, hC, ho_, Nat.zero_le _, rfl⟩, sub_of ⟨rfl, rfl, rfl, rfl, trivial⟩⟩ (fun m12 E_ w13 K9 hK10 hI11 => ?_)
  obtain ⟨k, A5, n5, c5, cn, rfl, rfl, hC14, hrow5, hk, hcn⟩ := hI11
  have hrb_ := remL_bd (fs.take k) L 0
  rw [List.length_take] at hrb_
  have hc5_ := own_count cellsE_len (by decide) hrow5
  refine WC.seq (fun K15 hK16 => ?_)
  refine WC.seq (fun K17 hK18 => ?_)
  refine WC.region ?_
  refine WL.runs 4 [(11, .bool (decide ((k : Int) < (fs.length : Int)))), (10, .int .i64 (fs.length : Int)), (9, .slice A fs.length c), (8, .int .i64 (k : Int))] (fun _ => by kernel_rfl) ?_
  refine WL.done rfl ?_
  refine QX.then_normal (hK18 _ _ ?_)
  refine WC.test_at 11 (decide ((k : Int) < (fs.length : Int))) rfl (fun t19b => ?_) (fun t19b => ?_)
  · -- (k : Int) < (fs.length : Int): true
    have t19 : (k : Int) < (fs.length : Int) := by have q_ := of_decide_eq_true t19b; omega
    refine WC.cond_true rfl ?_
    refine WC.skip ?_
    refine QX.then_normal (hK16 _ _ ?_)
    refine WC.seq (fun K20 hK21 => ?_)
    refine WC.block ?_
    refine WC.seq (fun K22 hK23 => ?_)
    refine WC.region ?_
    refine WL.runs 3 [(16, .int .i64 (k : Int)), (15, .slice A fs.length c), (14, .pointer (some ⟨p, 0, none⟩))] (fun _ => by kernel_rfl) ?_
    obtain ⟨e24, he25⟩ := get_some (xs := fs) (i := k) (by omega)
    obtain ⟨b26, o28, hA27, hc29⟩ := hks.at_ _ _ he25
    refine WL.index A fs.length c 17 .i64 (k : Int) b26 o28 k 5 (by kernel_rfl) hA27 (by omega) (by omega) (o28 + k * 5) (by first | (simp; done) | omega) ?_
    refine WL.load 32 (.pointer (some ⟨b26, o28 + k * 5, none⟩)) (.agg #[.int .i64 e24.proto, .int .u32 e24.src, .int .i64 e24.sport, .int .u32 e24.dst, .int .i64 e24.dport]) 18 (by kernel_rfl) (run_rdN (l := [.int .i64 e24.proto, .int .u32 e24.src, .int .i64 e24.sport, .int .u32 e24.dst, .int .i64 e24.dport]) rfl rfl (fun j u hu => by have hq_ := hC14.fr.cell (hc29 j u hu) (by have q_ := hAF _ _ hA27 (ne_of_get he25); simp only [List.mem_cons, not_or] at q_ ⊢; exact q_); simpa [Nat.add_assoc] using hq_)) ?_
    refine WL.call rfl rfl rfl rfl rfl (by kernel_rfl) (RFind_ct _ p (((fs.take k).foldl remL (L, 0)).1) tr un e24 w13 (df_mk hC14 0 0 rfl rfl hrow5)) ?_
    rintro _ w38 ⟨r40, rfl, hF37, hfr36⟩
    have hC39 := hC14.call hF37
    have ho41 := own_fr hrow5 hF37 (by simp)
    rcases hfr36 with hnn35 | ⟨i30, x31, hx32, hfx33, hpr34⟩
    · -- found: False
      refine ⟨_, rfl, ?_⟩
      refine WL.runs 1 [(7, .int .i64 (-1))] (fun _ => by kernel_rfl) ?_
      refine WL.done rfl ?_
      refine QX.then_normal (hK23 _ _ ?_)
      refine WC.seq (fun K42 hK43 => ?_)
      refine WC.region ?_
      refine WL.runs 2 [(21, .bool false), (20, .int .i64 (-1))] (fun _ => by kernel_rfl) ?_
      refine WL.done rfl ?_
      refine QX.then_normal (hK43 _ _ ?_)
      refine WC.cond_false rfl ?_
      refine WC.skip ?_
      refine QX.block_normal ?_
      refine QX.then_normal (hK21 _ _ ?_)
      refine WC.region ?_
      refine WL.runs 2 [(13, .int .i64 (IntKind.i64.wrap ((k : Int) + 1))), (12, .int .i64 (k : Int))] (fun _ => by kernel_rfl) ?_
      refine WL.recast (show (.int .i64 (IntKind.i64.wrap ((k : Int) + 1)) : Value) = .int .i64 ((k : Int) + 1) from by rw [wrap_in_i64 ((k : Int) + 1) (by omega) (by omega)]) ?_
      refine WL.runs 1 [(6, .int .i64 ((k : Int) + 1))] (fun _ => by kernel_rfl) ?_
      refine WL.done rfl ?_
      refine QX.then_normal ?_
      have hC44 := hC39.pick [0] [0] rfl rfl
      refine fun a_ ha_ => hK10 _ _ _ ?_ ⟨k + 1, A5, n5, c5, cn, rfl, rfl, hC44, by rw [remL_snoc he25, remL_miss hnn35]; exact ho41, by omega, by rw [remL_snoc he25, remL_miss hnn35, hcn]⟩ a_ (ha_.weaken (sub_of ⟨rfl, rfl, rfl, rfl, trivial⟩))
      omega
    · -- found: True
      have hil_ := (List.getElem?_eq_some_iff.1 hx32).1
      refine ⟨_, rfl, ?_⟩
      refine WL.runs 1 [(7, .int .i64 (i30 : Int))] (fun _ => by kernel_rfl) ?_
      refine WL.done rfl ?_
      refine QX.then_normal (hK23 _ _ ?_)
      refine WC.seq (fun K45 hK46 => ?_)
      refine WC.region ?_
      refine WL.runs 2 [(21, .bool (decide ((i30 : Int) ≥ 0))), (20, .int .i64 (i30 : Int))] (fun _ => by kernel_rfl) ?_
      refine WL.done rfl ?_
      refine QX.then_normal (hK46 _ _ ?_)
      refine WC.know 21 (.bool (decide ((i30 : Int) ≥ 0))) (.bool true) rfl (congrArg Value.bool (by exact decide_eq_true (by omega))) ?_
      refine WC.cond_true rfl ?_
      refine WC.seq (fun K47 hK48 => ?_)
      refine WC.region ?_
      refine WL.runs 2 [(23, .int .i64 (i30 : Int)), (22, .pointer (some ⟨p, 0, none⟩))] (fun _ => by kernel_rfl) ?_
      have hdf49 : dfAt w38 (p :: blk (.slice A5 n5 c5)) p (((fs.take k).foldl remL (L, 0)).1) tr un := df_mk hC39 0 0 rfl rfl ho41
      have hC50 := hC39.toF1 0 0 rfl rfl
      refine WL.call rfl rfl rfl rfl rfl (by kernel_rfl) (RCut_ct (p :: blk (.slice A5 n5 c5)) p (((fs.take k).foldl remL (L, 0)).1) tr un i30 w38 hdf49 (by omega) (by omega)) ?_
      rintro _ w52 ⟨F55, rfl, hF51, hT54, hsub56⟩
      have hT54' : dfAt w52 F55 p ((((fs.take k).foldl remL (L, 0)).1).eraseIdx i30) tr un := hT54
      have hC53 := hC50.callF 0 rfl hF51 hsub56 (dfAt_lt hT54)
      refine ⟨_, rfl, ?_⟩
      obtain ⟨A57, c58, hp59, ho60, rfl, hn61⟩ := hT54'
      have hC62 := hC53.unF1 0 rfl hp59 hn61
      refine WL.done rfl ?_
      refine QX.then_normal (hK48 _ _ ?_)
      refine WC.region ?_
      refine WL.runs 2 [(26, .int .i64 (IntKind.i64.wrap (cn + 1))), (25, .int .i64 cn)] (fun _ => by kernel_rfl) ?_
      refine WL.recast (show (.int .i64 (IntKind.i64.wrap (cn + 1)) : Value) = .int .i64 (cn + 1) from by rw [wrap_in_i64 (cn + 1) (by omega) (by omega)]) ?_
      refine WL.runs 1 [(5, .int .i64 (cn + 1))] (fun _ => by kernel_rfl) ?_
      refine WL.done rfl ?_
      refine QX.block_normal ?_
      refine QX.then_normal (hK21 _ _ ?_)
      refine WC.region ?_
      refine WL.runs 2 [(13, .int .i64 (IntKind.i64.wrap ((k : Int) + 1))), (12, .int .i64 (k : Int))] (fun _ => by kernel_rfl) ?_
      refine WL.recast (show (.int .i64 (IntKind.i64.wrap ((k : Int) + 1)) : Value) = .int .i64 ((k : Int) + 1) from by rw [wrap_in_i64 ((k : Int) + 1) (by omega) (by omega)]) ?_
      refine WL.runs 1 [(6, .int .i64 ((k : Int) + 1))] (fun _ => by kernel_rfl) ?_
      refine WL.done rfl ?_
      refine QX.then_normal ?_
      have hC63 := hC62.pick [0] [0] rfl rfl
      refine fun a_ ha_ => hK10 _ _ _ ?_ ⟨k + 1, A57, ((((fs.take k).foldl remL (L, 0)).1).eraseIdx i30).length, c58, cn + 1, rfl, rfl, hC63, by rw [remL_snoc he25, remL_hit (remL_nodup hnd) hx32 hfx33]; exact ho60, by omega, by rw [remL_snoc he25, remL_hit (remL_nodup hnd) hx32 hfx33, hcn]⟩ a_ (ha_.weaken (sub_of ⟨rfl, rfl, rfl, rfl, trivial⟩))
      omega
  · -- (k : Int) < (fs.length : Int): false
    have t19 : (fs.length : Int) ≤ (k : Int) := by have q_ := of_decide_eq_false t19b; omega
    refine WC.cond_false rfl ?_
    refine WC.exit ?_
    refine QX.then_exit ?_
    refine QX.then_exit ?_
    refine QX.block_hit ?_
    refine QX.then_normal (hK6 _ _ ?_)
    refine WC.seq (fun K64 hK65 => ?_)
    refine WC.region ?_
    refine WL.runs 2 [(4, .int .i64 cn), (27, .int .i64 cn)] (fun _ => by kernel_rfl) ?_
    refine WL.done rfl ?_
    refine QX.then_normal (hK65 _ _ ?_)
    refine WC.ret ?_
    refine (hret _ _ _ rfl ?_).1
    clear hN hret hret' hK65 hK18 hK16 hK8 hK6 hK4 hK2
    have hk2_ : fs.take k = fs := take_all_of (by omega)
    have hrw_ := hrow5
    rw [hk2_] at hcn hrw_
    subst hcn
    exact ⟨_, rfl, hC14.fr, df_mk hC14 0 0 rfl rfl hrw_, fun x_ hx_ => (List.mem_cons.1 hx_).elim (fun e_ => by subst e_; exact .inl List.mem_cons_self) (fun h_ => hC14.ownF _ (List.mem_of_getElem? (show _[0]? = some (blk (.slice A5 n5 c5)) from rfl)) x_ h_)⟩

end Go.Proofs.Ytimphmcoafapgaa
