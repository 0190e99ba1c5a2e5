/- Contracts of functions of the program, each proved by a walk through its code; conditions stand in the statements. -/
import Derived.Test.YtimphmcoafapgaaFlF11
namespace Go.Proofs.Ytimphmcoafapgaa
set_option linter.unusedSimpArgs false
set_option linter.unusedVariables false
set_option linter.unusedSectionVars false
open Go Go.RowKit Go.Tw
set_option linter.unusedVariables false
set_option maxRecDepth 20000
def outF2 (T : Tb) (now : Int) : List Flow × Tb := if goodTime now then (outF T.m now, ((outF T.m now).foldl remF (T, 0)).1) else ([], T)
theorem Expire1_ct (p b : Nat) (T : Tb) (now : Int) (w : World) (ht : tbAt w p b T) (hth : -1000000000 ≤ T.th ∧ T.th ≤ 1000000000) (huh : -1000000000 ≤ T.uh ∧ T.uh ≤ 1000000000) (hm1 : T.m.length ≤ 1) (hls : ∀ p ∈ T.m, 0 ≤ p.2.last ∧ p.2.last ≤ 1099511627776) : Calls Try.prog 15 #[.pointer (some ⟨p, 0, none⟩), .int .i64 now] w fun e w' => ∃ v, e = .returned v ∧ Fr w w' [p, b] ∧ tbAt w' p b (outF2 T now).2 ∧ w'.ownsRow w.heap.size 32 5 v (outF2 T now).1.length ((outF2 T now).1.flatMap cellsF) := by
  refine enterD (n := 31) Try.func15 rfl rfl (Nat.le_of_ble_eq_true rfl) ?_
  intro Q0 hN hret hret'
  have hC := Cx.start1 w (tbAt_lt ht)
  refine WC.seq (fun K1 hK2 => ?_)
  refine WC.region ?_
  refine WL.runs 1 [(4, .slice none 0 0)] (fun _ => by kernel_rfl) ?_
  refine WL.done rfl ?_
  refine QX.then_normal (hK2 _ _ ?_)
  refine WC.seq (fun K3 hK4 => ?_)
  refine WC.seq (fun K5 hK6 => ?_)
  refine WC.region ?_
  refine WL.runs 1 [(8, .int .i64 now)] (fun _ => by kernel_rfl) ?_
  refine WL.call rfl rfl rfl rfl rfl (by kernel_rfl) (goodTime_ct now w) ?_
  rintro _ w8 ⟨rfl, hF7⟩
  refine ⟨_, rfl, ?_⟩
  have hC9 := hC.call hF7
  have hf10 := tbAt_fr ht hF7 (by simp)
  refine WL.runs 1 [(10, .bool (!(goodTime now)))] (fun _ => by kernel_rfl) ?_
  refine WL.done rfl ?_
  refine QX.then_normal (hK6 _ _ ?_)
  refine WC.test_at 10 (!(goodTime now)) rfl (fun t11b => ?_) (fun t11b => ?_)
  · -- (!(goodTime now)) = true: true
    have t11 : (goodTime now) = false := by first | (simpa only [Bool.not_eq_true', Bool.not_eq_false'] using t11b) | simpa using t11b
    refine WC.cond_true rfl ?_
    refine WC.seq (fun K12 hK13 => ?_)
    refine WC.region ?_
    refine WL.runs 1 [(4, .slice none 0 0)] (fun _ => by kernel_rfl) ?_
    refine WL.done rfl ?_
    refine QX.then_normal (hK13 _ _ ?_)
    refine WC.ret ?_
    refine QX.then_ret ?_
    refine (hret _ _ _ rfl ?_).1
    clear hN hret hret' hK13 hK6 hK4 hK2
    have ho_ : outF2 T now = ([], T) := by simp [outF2, t11, t11b]
    rw [ho_]
    exact ⟨_, rfl, hC9.fr, hf10, own_nil _ _ _ _⟩
  · -- (!(goodTime now)) = true: false
    have t11 : (goodTime now) = true := by first | (simpa only [Bool.not_eq_true', Bool.not_eq_false'] using t11b) | simpa using t11b
    refine WC.cond_false rfl ?_
    refine WC.skip ?_
    refine QX.then_normal (hK4 _ _ ?_)
    refine WC.seq (fun K14 hK15 => ?_)
    refine WC.region ?_
    refine WL.runs 1 [(5, .slice none 0 0)] (fun _ => by kernel_rfl) ?_
    refine WL.done rfl ?_
    refine QX.then_normal (hK15 _ _ ?_)
    refine WC.seq (fun K16 hK17 => ?_)
    refine WC.seq (fun K18 hK19 => ?_)
    refine WC.region ?_
    refine WL.runs 1 [(11, .pointer (some ⟨p, 0, none⟩))] (fun _ => by kernel_rfl) ?_
    refine WL.call rfl rfl rfl rfl rfl (by kernel_rfl) (All1_ct p b T w8 hf10 (hm1)) ?_
    rintro _ w22 ⟨v_, rfl, hF21, ho20⟩
    have hC23 := hC9.callN hF21 (own_ge ho20) (own_lt ho20)
    obtain ⟨A24, c25, rfl, hle26⟩ := own_form ho20
    have ho28 := own_base (b' := 0) ho20 (fun _ _ => Nat.zero_le _)
    refine ⟨_, rfl, ?_⟩
    have hf29 := tbAt_fr hf10 hF21 (by simp)
    refine WL.runs 2 [(14, .int .i64 0), (13, .int .i64 ((entsOf T.m).length : Int))] (fun _ => by kernel_rfl) ?_
    refine WL.done rfl ?_
    refine QX.then_normal (hK19 _ _ ?_)
    refine WC.block ?_
    have hC31 := hC23.addNil
    have hel_ : (entsOf T.m).length ≤ 1 := by rw [entsOf_len]; exact hm1
    refine WC.loop (fun m_ E_ w_ => ∃ (k : Nat) (A5 : Option Addr) (n5 c5 : Nat), m_ = (entsOf T.m).length - k ∧ E_ = [(0, .pointer (some ⟨p, 0, none⟩)), (1, .int .i64 now), (4, .slice none 0 0), (5, .slice A5 n5 c5), (8, .int .i64 now), (9, .bool (goodTime now)), (10, .bool false), (11, .pointer (some ⟨p, 0, none⟩)), (12, .slice A24 ((entsOf T.m).length) c25), (13, .int .i64 ((entsOf T.m).length : Int)), (14, .int .i64 (k : Int))] ∧ Cx w [p, b] w_ [] [[p, b], blk (.slice A24 ((entsOf T.m).length) c25), blk (.slice A5 n5 c5)] ∧ tbAt w_ p b T ∧ World.ownsRow w_ 0 34 10 (.slice A24 ((entsOf T.m).length) c25) ((entsOf T.m).length) ((entsOf T.m).flatMap cellsE) ∧ World.ownsRow w_ 0 32 5 (.slice A5 n5 c5) n5 (((((entsOf T.m).take k).filter (idleB · now)).map (·.flow)).flatMap cellsF) ∧ (k ≤ (entsOf T.m).length)) ⟨_, _, ⟨0, none, 0, 0, rfl, rfl, hC31, hf29, ho28, own_nil _ _ _ _, Nat.zero_le _⟩, sub_of ⟨rfl, rfl, rfl, rfl, rfl, rfl, rfl, rfl, rfl, rfl, rfl, trivial⟩⟩ (fun m35 E_ w36 K32 hK33 hI34 => ?_)
    obtain ⟨k, A5, n5, c5, rfl, rfl, hC37, tbl_m35, row30_m35, hrow, hk⟩ := hI34
    have hcn_ := own_count cellsF_len (by decide) hrow
    have hcl_ : n5 ≤ 1 := by rw [← hcn_]; simp only [List.length_map]; have q1_ := List.length_filter_le (idleB · now) ((entsOf T.m).take k); have q2_ := List.length_take_le k (entsOf T.m); omega
    refine WC.seq (fun K38 hK39 => ?_)
    refine WC.region ?_
    refine WL.runs 1 [(15, .bool (decide ((k : Int) < ((entsOf T.m).length : Int))))] (fun _ => by kernel_rfl) ?_
    refine WL.done rfl ?_
    refine QX.then_normal (hK39 _ _ ?_)
    refine WC.seq (fun K40 hK41 => ?_)
    refine WC.test_at 15 (decide ((k : Int) < ((entsOf T.m).length : Int))) rfl (fun t42b => ?_) (fun t42b => ?_)
    · -- (k : Int) < ((entsOf T.m).length : Int): true
      have t42 : (k : Int) < ((entsOf T.m).length : Int) := by have q_ := of_decide_eq_true t42b; omega
      refine WC.cond_true rfl ?_
      refine WC.skip ?_
      refine QX.then_normal (hK41 _ _ ?_)
      refine WC.seq (fun K43 hK44 => ?_)
      refine WC.block ?_
      refine WC.seq (fun K45 hK46 => ?_)
      refine WC.region ?_
      have hn51 := own_count cellsE_len (by decide) row30_m35
      obtain ⟨e47, he48⟩ := get_some (xs := (entsOf T.m)) (i := k) (by omega)
      obtain ⟨b49, hA50⟩ := own_addr (by decide) cellsE_len row30_m35 he48
      refine WL.index A24 ((entsOf T.m).length) c25 16 .i64 (k : Int) b49 0 k 10 (by kernel_rfl) hA50 (by omega) (by omega) (k * 10) (by first | (simp; done) | omega) ?_
      refine WL.load 34 (.pointer (some ⟨b49, k * 10, none⟩)) (.agg #[.int .i64 e47.flow.proto, .int .u32 e47.flow.src, .int .i64 e47.flow.sport, .int .u32 e47.flow.dst, .int .i64 e47.flow.dport, .int .u32 e47.dip, .int .i64 e47.epoch, .bool e47.trusted, .bool e47.closing, .int .i64 e47.last]) 17 (by kernel_rfl) (run_rdN (l := [.int .i64 e47.flow.proto, .int .u32 e47.flow.src, .int .i64 e47.flow.sport, .int .u32 e47.flow.dst, .int .i64 e47.flow.dport, .int .u32 e47.dip, .int .i64 e47.epoch, .bool e47.trusted, .bool e47.closing, .int .i64 e47.last]) rfl rfl (fun j u hu => by have hq_ := Rd.cell (own_rd row30_m35 cellsE_len (by decide)) hA50 he48 j u hu; simpa [Nat.add_assoc] using hq_)) ?_
      refine WL.newM hC37 (fun b => .pointer (some ⟨b, 0, none⟩)) (.cells #[.int .i64 0, .int .u32 0, .int .i64 0, .int .u32 0, .int .i64 0, .int .u32 0, .int .i64 0, .bool false, .bool false, .int .i64 0] 34) 7 (fun _ => by kernel_rfl) (fun g52 w53 hb56 hF54 hC55 => ?_)
      have hf57 := tbAt_fr tbl_m35 hF54 (by simp)
      have ho58 := own_fr row30_m35 hF54 (by simp)
      have ho59 := own_fr hrow hF54 (by simp)
      refine WL.storeM (c' := #[.int .i64 e47.flow.proto, .int .u32 e47.flow.src, .int .i64 e47.flow.sport, .int .u32 e47.flow.dst, .int .i64 e47.flow.dport, .int .u32 e47.dip, .int .i64 e47.epoch, .bool e47.trusted, .bool e47.closing, .int .i64 e47.last]) hC55 0 34 g52 0 (.agg #[.int .i64 e47.flow.proto, .int .u32 e47.flow.src, .int .i64 e47.flow.sport, .int .u32 e47.flow.dst, .int .i64 e47.flow.dport, .int .u32 e47.dip, .int .i64 e47.epoch, .bool e47.trusted, .bool e47.closing, .int .i64 e47.last]) (by kernel_rfl) rfl (by kernel_rfl) (fun w60 hF62 hC63 => ?_)
      have hf64 := tbAt_fr hf57 hF62 (hC55.apartM 0 0 rfl rfl)
      have ho65 := own_fr ho58 hF62 (hC55.apartM 1 0 rfl rfl)
      have ho66 := own_fr ho59 hF62 (hC55.apartM 2 0 rfl rfl)
      refine WL.done rfl ?_
      refine QX.then_normal (hK46 _ _ ?_)
      refine WC.seq (fun K67 hK68 => ?_)
      refine WC.region ?_
      refine WL.load 34 (.pointer (some ⟨g52, 0, none⟩)) (.agg #[.int .i64 e47.flow.proto, .int .u32 e47.flow.src, .int .i64 e47.flow.sport, .int .u32 e47.flow.dst, .int .i64 e47.flow.dport, .int .u32 e47.dip, .int .i64 e47.epoch, .bool e47.trusted, .bool e47.closing, .int .i64 e47.last]) 18 (by kernel_rfl) (run_ld (hC63.get 0 rfl) rfl) ?_
      refine WL.runs 1 [(19, .int .i64 now)] (fun _ => by kernel_rfl) ?_
      refine WL.call rfl rfl rfl rfl rfl (by kernel_rfl) (idle_ct e47 now w60 (goodTime_bd (by assumption)) (by have q_ := List.mem_of_getElem? he48; obtain ⟨p_, hp_, he_⟩ := List.mem_map.1 q_; exact he_ ▸ hls p_ hp_)) ?_
      rintro _ w70 ⟨rfl, hF69⟩
      refine ⟨_, rfl, ?_⟩
      have hC71 := hC63.call hF69
      have hf72 := tbAt_fr hf64 hF69 (by simp)
      have ho73 := own_fr ho65 hF69 (by simp)
      have ho74 := own_fr ho66 hF69 (by simp)
      refine WL.done rfl ?_
      refine QX.then_normal (hK68 _ _ ?_)
      refine WC.test_at 20 (idleB e47 now) rfl (fun t75b => ?_) (fun t75b => ?_)
      · -- (idleB e47 now) = true: true
        refine WC.cond_true rfl ?_
        refine WC.region ?_
        refine WL.runs 2 [(22, .pointer (some ⟨g52, 0, none⟩)), (21, .slice A5 n5 c5)] (fun _ => by kernel_rfl) ?_
        refine WL.load 32 (.pointer (some ⟨g52, 0, none⟩)) (.agg #[.int .i64 e47.flow.proto, .int .u32 e47.flow.src, .int .i64 e47.flow.sport, .int .u32 e47.flow.dst, .int .i64 e47.flow.dport]) 23 (by kernel_rfl) (run_ld (hC71.get 0 rfl) rfl) ?_
        refine WL.newM hC71 (fun b => .slice (some ⟨b, 0, none⟩) 1 1) (.cells #[.int .i64 e47.flow.proto, .int .u32 e47.flow.src, .int .i64 e47.flow.sport, .int .u32 e47.flow.dst, .int .i64 e47.flow.dport] 32) 24 (fun _ => by kernel_rfl) (fun g76 w77 hb80 hF78 hC79 => ?_)
        have hf81 := tbAt_fr hf72 hF78 (by simp)
        have ho82 := own_fr ho73 hF78 (by simp)
        have ho83 := own_fr ho74 hF78 (by simp)
        obtain ⟨v84, w85, hr86, ho87, hF88, hC89, hnil90, hsub91⟩ := app_run Try.prog hC79 2 (v := .slice A5 n5 c5) rfl 41 41 32 5 40 n5 1 1 (some ⟨g76, 0, none⟩) rfl ho83 [.int .i64 e47.flow.proto, .int .u32 e47.flow.src, .int .i64 e47.flow.sport, .int .u32 e47.flow.dst, .int .i64 e47.flow.dport] rfl (srcOk.blk 1 (hC79.get 1 rfl)) rfl (by simp only [maxLen]; omega) (by omega)
        have ho95 := own_snoc (enc := cellsF) (ys := ((((entsOf T.m).take k).filter (idleB · now)).map (·.flow))) e47.flow ho87
        obtain ⟨A92, c93, rfl, hle94⟩ := own_form ho95
        refine WL.sem (Builtin.append_ #[41, 41] 41 #[.slice A5 n5 c5, .slice (some ⟨g76, 0, none⟩) 1 1]) 25 (.slice A92 (n5 + 1) c93) (by kernel_rfl) hr86 ?_
        have hf96 := tbAt_fr hf81 hF88 (hC79.disj 0 2 rfl rfl (by decide))
        have ho97 := own_fr ho82 hF88 (hC79.disj 1 2 rfl rfl (by decide))
        refine WL.runs 1 [(5, .slice A92 (n5 + 1) c93)] (fun _ => by kernel_rfl) ?_
        refine WL.done rfl ?_
        refine QX.block_normal ?_
        refine QX.then_normal (hK44 _ _ ?_)
        refine WC.region ?_
        refine WL.runs 1 [(26, .int .i64 (IntKind.i64.wrap ((k : Int) + 1)))] (fun _ => by kernel_rfl) ?_
        refine WL.recast (show (.int .i64 (IntKind.i64.wrap ((k : Int) + 1)) : Value) = .int .i64 ((k : Int) + 1) from by rw [wrap_in_i64 ((k : Int) + 1) (by omega) (by omega)]) ?_
        refine WL.runs 1 [(14, .int .i64 ((k : Int) + 1))] (fun _ => by kernel_rfl) ?_
        refine WL.done rfl ?_
        refine QX.then_normal ?_
        have hC98 := hC89.pick [] [0, 1, 2] rfl rfl
        refine fun a_ ha_ => hK33 _ _ _ ?_ ⟨k + 1, A92, n5 + 1, c93, rfl, rfl, hC98, hf96, ho97, by rw [idle_snoc he48, if_pos t75b]; exact ho95, by omega⟩ a_ (ha_.weaken (sub_of ⟨rfl, rfl, rfl, rfl, rfl, rfl, rfl, rfl, rfl, rfl, rfl, trivial⟩))
        omega
      · -- (idleB e47 now) = true: false
        refine WC.cond_false rfl ?_
        refine WC.skip ?_
        refine QX.block_normal ?_
        refine QX.then_normal (hK44 _ _ ?_)
        refine WC.region ?_
        refine WL.runs 1 [(26, .int .i64 (IntKind.i64.wrap ((k : Int) + 1)))] (fun _ => by kernel_rfl) ?_
        refine WL.recast (show (.int .i64 (IntKind.i64.wrap ((k : Int) + 1)) : Value) = .int .i64 ((k : Int) + 1) from by rw [wrap_in_i64 ((k : Int) + 1) (by omega) (by omega)]) ?_
        refine WL.runs 1 [(14, .int .i64 ((k : Int) + 1))] (fun _ => by kernel_rfl) ?_
        refine WL.done rfl ?_
        refine QX.then_normal ?_
        have hC99 := hC71.pick [] [0, 1, 2] rfl rfl
        refine fun a_ ha_ => hK33 _ _ _ ?_ ⟨k + 1, A5, n5, c5, rfl, rfl, hC99, hf72, ho73, by rw [idle_snoc he48, if_neg (by rw [t75b]; decide), List.append_nil]; exact ho74, by omega⟩ a_ (ha_.weaken (sub_of ⟨rfl, rfl, rfl, rfl, rfl, rfl, rfl, rfl, rfl, rfl, rfl, trivial⟩))
        omega
    · -- (k : Int) < ((entsOf T.m).length : Int): false
      have t42 : ((entsOf T.m).length : Int) ≤ (k : Int) := by have q_ := of_decide_eq_false t42b; omega
      refine WC.cond_false rfl ?_
      refine WC.exit ?_
      refine QX.then_exit ?_
      refine QX.then_exit ?_
      refine QX.block_hit ?_
      refine QX.then_normal (hK17 _ _ ?_)
      refine WC.seq (fun K100 hK101 => ?_)
      refine WC.region ?_
      refine WL.runs 2 [(28, .slice A5 n5 c5), (27, .pointer (some ⟨p, 0, none⟩))] (fun _ => by kernel_rfl) ?_
      have hcr_ := own_count cellsF_len (by decide) hrow
      have hdj_ : ∀ g_ o_, A5 = some ⟨g_, o_, none⟩ → g_ ≠ p ∧ g_ ≠ b := fun g_ o_ h_ => by
        have hm_ : g_ ∈ blk (.slice A5 n5 c5) := by rw [h_]; simp [blk, Value.ownBlock]
        have hd_ := hC37.disj 2 0 rfl rfl (by decide) g_ hm_
        simpa using hd_
      have hrm106 := Remove_ct p b T A5 c5 ((((entsOf T.m).take k).filter (idleB · now)).map (·.flow)) w36 tbl_m35 hth huh (own_rd hrow cellsF_len (by decide)) hdj_ (by rw [hcr_]; omega)
      rw [hcr_] at hrm106
      refine WL.call rfl rfl rfl rfl rfl (by kernel_rfl) hrm106 ?_
      rintro _ w103 ⟨rfl, hF102, hT105⟩
      have hC104 := hC37.callF 0 rfl hF102 (fun _ hx_ => .inl hx_) (tbAt_lt hT105)
      refine ⟨_, rfl, ?_⟩
      have ho107 := own_fr row30_m35 hF102 (hC37.disj 1 0 rfl rfl (by decide))
      have ho108 := own_fr hrow hF102 (hC37.disj 2 0 rfl rfl (by decide))
      refine WL.done rfl ?_
      refine QX.then_normal (hK101 _ _ ?_)
      refine WC.seq (fun K109 hK110 => ?_)
      refine WC.region ?_
      refine WL.runs 2 [(4, .slice A5 n5 c5), (30, .slice A5 n5 c5)] (fun _ => by kernel_rfl) ?_
      refine WL.done rfl ?_
      refine QX.then_normal (hK110 _ _ ?_)
      refine WC.ret ?_
      refine (hret _ _ _ rfl ?_).1
      clear hN hret hret' hK110 hK101 hK41 hK39 hK19 hK17 hK15 hK6 hK4 hK2
      have hk2_ : (entsOf T.m).take k = entsOf T.m := List.take_of_length_le (by omega)
      have ho_ := ho108
      have hT_ := hT105
      rw [hk2_] at ho_ hcn_ hT_
      have hgt_ : goodTime now = true := by simpa using t11
      have ho2_ : outF2 T now = (outF T.m now, ((outF T.m now).foldl remF (T, 0)).1) := by simp [outF2, hgt_]
      rw [ho2_]
      subst hcn_
      exact ⟨_, rfl, hC104.fr, hT_, own_base ho_ (newF_of hC104 2 rfl (tbAt_lt ht) (fun q_ hq_ => hC104.disj 0 2 rfl rfl (by decide) q_ hq_))⟩

end Go.Proofs.Ytimphmcoafapgaa
