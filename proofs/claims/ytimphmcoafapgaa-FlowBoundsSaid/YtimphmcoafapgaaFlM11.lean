/- Contracts of functions of the program, each proved by a walk through its code; conditions stand in the statements. -/
import Derived.Test.YtimphmcoafapgaaFlL11
namespace Go.Proofs.Ytimphmcoafapgaa
set_option linter.unusedSimpArgs false
set_option linter.unusedVariables false
set_option linter.unusedSectionVars false
open Go Go.RowKit Go.Tw
set_option linter.unusedVariables false
set_option maxRecDepth 20000
set_option maxHeartbeats 2000000 in
theorem quotas_ct (tr un : Int) (C : Option Addr) (c : Nat) (ops : List FOp) (w : World) (hops : Rd w 11 cellO C ops) (hok : ∀ o ∈ ops, fopAt w o) (hcl : ops.length ≤ 9223372036854775807) : Calls Try.prog 30 #[.int .i64 tr, .int .i64 un, .slice C ops.length c] w fun e w' => e = .returned (.bool true) ∧ Fr w w' [] := by
  refine enterD (n := 220) Try.func30 rfl rfl (Nat.le_of_ble_eq_true rfl) ?_
  intro Q0 hN hret hret'
  have hC := Cx.start w
  refine WC.seq (fun K1 hK2 => ?_)
  refine WC.region ?_
  refine WL.runs 1 [(6, .bool false)] (fun _ => by kernel_rfl) ?_
  refine WL.done rfl ?_
  refine QX.then_normal (hK2 _ _ ?_)
  refine WC.seq (fun K3 hK4 => ?_)
  refine WC.seq (fun K5 hK6 => ?_)
  refine WC.region ?_
  refine WL.call rfl rfl rfl rfl rfl (by kernel_rfl) (alive_ct w) ?_
  rintro _ w8 ⟨rfl, hF7⟩
  refine ⟨_, rfl, ?_⟩
  have hC9 := hC.call hF7
  refine WL.runs 1 [(23, .bool false)] (fun _ => by kernel_rfl) ?_
  refine WL.done rfl ?_
  refine QX.then_normal (hK6 _ _ ?_)
  refine WC.cond_false rfl ?_
  refine WC.skip ?_
  refine QX.then_normal (hK4 _ _ ?_)
  refine WC.seq (fun K10 hK11 => ?_)
  refine WC.seq (fun K12 hK13 => ?_)
  refine WC.region ?_
  refine WL.runs 3 [(26, .bool (decide (tr < 0))), (25, .bool (decide (tr < 0))), (24, .int .i64 tr)] (fun _ => by kernel_rfl) ?_
  refine WL.test_at 26 (decide (tr < 0)) rfl (fun t14b => ?_) (fun t14b => ?_)
  · -- tr < 0: true
    have t14 : tr < 0 := by have q_ := of_decide_eq_true t14b; omega
    refine WL.runs 15 [(41, .bool true), (40, undef), (39, undef), (38, .bool true), (37, .bool true), (36, undef), (35, undef), (34, .bool true), (33, .bool true), (32, undef), (31, undef), (30, .bool true), (29, .bool true), (28, undef), (27, undef)] (fun _ => by kernel_rfl) ?_
    refine WL.done rfl ?_
    refine QX.then_normal (hK13 _ _ ?_)
    refine WC.cond_true rfl ?_
    refine WC.seq (fun K15 hK16 => ?_)
    refine WC.region ?_
    refine WL.runs 1 [(6, .bool true)] (fun _ => by kernel_rfl) ?_
    refine WL.done rfl ?_
    refine QX.then_normal (hK16 _ _ ?_)
    refine WC.ret ?_
    refine QX.then_ret ?_
    refine (hret _ _ _ rfl ?_).1
    clear hN hret hret' hK16 hK13 hK11 hK6 hK4 hK2
    exact ⟨rfl, hC9.fr⟩
  · -- tr < 0: false
    have t14 : (0 : Int) ≤ tr := by have q_ := of_decide_eq_false t14b; omega
    refine WL.runs 4 [(30, .bool (decide (tr > 4096))), (29, .bool (decide (tr > 4096))), (28, .bool (decide (tr > 4096))), (27, .int .i64 tr)] (fun _ => by kernel_rfl) ?_
    refine WL.test_at 30 (decide (tr > 4096)) rfl (fun t17b => ?_) (fun t17b => ?_)
    · -- tr > 4096: true
      have t17 : (4096 : Int) < tr := by have q_ := of_decide_eq_true t17b; omega
      refine WL.runs 11 [(41, .bool true), (40, undef), (39, undef), (38, .bool true), (37, .bool true), (36, undef), (35, undef), (34, .bool true), (33, .bool true), (32, undef), (31, undef)] (fun _ => by kernel_rfl) ?_
      refine WL.done rfl ?_
      refine QX.then_normal (hK13 _ _ ?_)
      refine WC.cond_true rfl ?_
      refine WC.seq (fun K18 hK19 => ?_)
      refine WC.region ?_
      refine WL.runs 1 [(6, .bool true)] (fun _ => by kernel_rfl) ?_
      refine WL.done rfl ?_
      refine QX.then_normal (hK19 _ _ ?_)
      refine WC.ret ?_
      refine QX.then_ret ?_
      refine (hret _ _ _ rfl ?_).1
      clear hN hret hret' hK19 hK13 hK11 hK6 hK4 hK2
      exact ⟨rfl, hC9.fr⟩
    · -- tr > 4096: false
      have t17 : tr ≤ 4096 := by have q_ := of_decide_eq_false t17b; omega
      refine WL.runs 4 [(34, .bool (decide (un < 0))), (33, .bool (decide (un < 0))), (32, .bool (decide (un < 0))), (31, .int .i64 un)] (fun _ => by kernel_rfl) ?_
      refine WL.test_at 34 (decide (un < 0)) rfl (fun t20b => ?_) (fun t20b => ?_)
      · -- un < 0: true
        have t20 : un < 0 := by have q_ := of_decide_eq_true t20b; omega
        refine WL.runs 7 [(41, .bool true), (40, undef), (39, undef), (38, .bool true), (37, .bool true), (36, undef), (35, undef)] (fun _ => by kernel_rfl) ?_
        refine WL.done rfl ?_
        refine QX.then_normal (hK13 _ _ ?_)
        refine WC.cond_true rfl ?_
        refine WC.seq (fun K21 hK22 => ?_)
        refine WC.region ?_
        refine WL.runs 1 [(6, .bool true)] (fun _ => by kernel_rfl) ?_
        refine WL.done rfl ?_
        refine QX.then_normal (hK22 _ _ ?_)
        refine WC.ret ?_
        refine QX.then_ret ?_
        refine (hret _ _ _ rfl ?_).1
        clear hN hret hret' hK22 hK13 hK11 hK6 hK4 hK2
        exact ⟨rfl, hC9.fr⟩
      · -- un < 0: false
        have t20 : (0 : Int) ≤ un := by have q_ := of_decide_eq_false t20b; omega
        refine WL.runs 4 [(38, .bool (decide (un > 4096))), (37, .bool (decide (un > 4096))), (36, .bool (decide (un > 4096))), (35, .int .i64 un)] (fun _ => by kernel_rfl) ?_
        refine WL.test_at 38 (decide (un > 4096)) rfl (fun t23b => ?_) (fun t23b => ?_)
        · -- un > 4096: true
          have t23 : (4096 : Int) < un := by have q_ := of_decide_eq_true t23b; omega
          refine WL.runs 3 [(41, .bool true), (40, undef), (39, undef)] (fun _ => by kernel_rfl) ?_
          refine WL.done rfl ?_
          refine QX.then_normal (hK13 _ _ ?_)
          refine WC.cond_true rfl ?_
          refine WC.seq (fun K24 hK25 => ?_)
          refine WC.region ?_
          refine WL.runs 1 [(6, .bool true)] (fun _ => by kernel_rfl) ?_
          refine WL.done rfl ?_
          refine QX.then_normal (hK25 _ _ ?_)
          refine WC.ret ?_
          refine QX.then_ret ?_
          refine (hret _ _ _ rfl ?_).1
          clear hN hret hret' hK25 hK13 hK11 hK6 hK4 hK2
          exact ⟨rfl, hC9.fr⟩
        · -- un > 4096: false
          have t23 : un ≤ 4096 := by have q_ := of_decide_eq_false t23b; omega
          refine WL.runs 1 [(39, .slice C ops.length c)] (fun _ => by kernel_rfl) ?_
          refine WL.call rfl rfl rfl rfl rfl (by kernel_rfl) (long_ct C c ops w8 (Rd.fr hops hC9.fr) (fun o_ h_ => (hok o_ h_).fr hC9.fr) hcl) ?_
          rintro _ w28 ⟨b26, rfl, hF27⟩
          refine ⟨_, rfl, ?_⟩
          have hC29 := hC9.call hF27
          refine WL.runs 1 [(41, .bool b26)] (fun _ => by kernel_rfl) ?_
          refine WL.done rfl ?_
          refine QX.then_normal (hK13 _ _ ?_)
          refine WC.test_at 41 (b26) rfl (fun t30b => ?_) (fun t30b => ?_)
          · -- b26 = true: true
            refine WC.cond_true rfl ?_
            refine WC.seq (fun K31 hK32 => ?_)
            refine WC.region ?_
            refine WL.runs 1 [(6, .bool true)] (fun _ => by kernel_rfl) ?_
            refine WL.done rfl ?_
            refine QX.then_normal (hK32 _ _ ?_)
            refine WC.ret ?_
            refine QX.then_ret ?_
            refine (hret _ _ _ rfl ?_).1
            clear hN hret hret' hK32 hK13 hK11 hK6 hK4 hK2
            exact ⟨rfl, hC29.fr⟩
          · -- b26 = true: false
            refine WC.cond_false rfl ?_
            refine WC.skip ?_
            refine QX.then_normal (hK11 _ _ ?_)
            refine WC.seq (fun K33 hK34 => ?_)
            refine WC.region ?_
            refine WL.runs 2 [(44, .int .i64 un), (43, .int .i64 tr)] (fun _ => by kernel_rfl) ?_
            refine WL.call rfl rfl rfl rfl rfl (by kernel_rfl) (New_ct tr un w28 (by omega) (by omega)) ?_
            rintro _ w38 ⟨p35, b36, rfl, hF37, hT40, hge41, hge42⟩
            have hC39 := hC29.callN hF37 (G := [p35, b36]) (fun x_ hx_ => by simp at hx_; rcases hx_ with rfl | rfl; exact hge41; exact hge42) (tbAt_lt hT40)
            refine ⟨_, rfl, ?_⟩
            have hok43 : TOk (⟨[], 0, tr, 0, un⟩ : Tb) := TOk.new (by omega) (by omega)
            have hms44 : (⟨[], 0, tr, 0, un⟩ : Tb).tm = tr ∧ (⟨[], 0, tr, 0, un⟩ : Tb).um = un := ⟨rfl, rfl⟩
            refine WL.runs 5 [(8, .nilIface), (7, .pointer (some ⟨p35, 0, none⟩)), (47, .nilIface), (46, .pointer (some ⟨p35, 0, none⟩)), (42, .tuple #[.pointer (some ⟨p35, 0, none⟩), .nilIface])] (fun _ => by kernel_rfl) ?_
            refine WL.done rfl ?_
            refine QX.then_normal (hK34 _ _ ?_)
            refine WC.seq (fun K45 hK46 => ?_)
            refine WC.seq (fun K47 hK48 => ?_)
            refine WC.region ?_
            refine WL.runs 6 [(53, .bool false), (52, .bool false), (51, .pointer (some ⟨p35, 0, none⟩)), (50, .bool false), (49, .bool false), (48, .nilIface)] (fun _ => by kernel_rfl) ?_
            refine WL.done rfl ?_
            refine QX.then_normal (hK48 _ _ ?_)
            refine WC.cond_false rfl ?_
            refine WC.skip ?_
            refine QX.then_normal (hK46 _ _ ?_)
            refine WC.seq (fun K49 hK50 => ?_)
            refine WC.seq (fun K51 hK52 => ?_)
            refine WC.region ?_
            refine WL.runs 3 [(56, .int .i64 0), (55, .int .i64 (ops.length : Int)), (54, .slice C ops.length c)] (fun _ => by kernel_rfl) ?_
            refine WL.done rfl ?_
            refine QX.then_normal (hK52 _ _ ?_)
            refine WC.block ?_
            refine WC.loop (fun m_ E_ w_ => ∃ (i : Nat) (T5 : Tb), m_ = ops.length - i ∧ E_ = [(0, .int .i64 tr), (1, .int .i64 un), (2, .slice C ops.length c), (7, .pointer (some ⟨p35, 0, none⟩)), (54, .slice C ops.length c), (55, .int .i64 (ops.length : Int)), (56, .int .i64 (i : Int))] ∧ Cx w [] w_ [] [[p35, b36]] ∧ tbAt w_ p35 b36 T5 ∧ (i ≤ ops.length ∧ TOk T5 ∧ T5.tm = tr ∧ T5.um = un)) ⟨_, _, ⟨0, (⟨[], 0, tr, 0, un⟩ : Tb), rfl, rfl, hC39, hT40, Nat.zero_le _, hok43, hms44⟩, sub_of ⟨rfl, rfl, rfl, rfl, rfl, rfl, rfl, trivial⟩⟩ (fun m56 E_ w57 K53 hK54 hI55 => ?_)
            obtain ⟨i, T5, rfl, rfl, hC58, hT5, hi, hok5, hms5⟩ := hI55
            refine WC.seq (fun K59 hK60 => ?_)
            refine WC.region ?_
            refine WL.runs 1 [(57, .bool (decide ((i : Int) < (ops.length : Int))))] (fun _ => by kernel_rfl) ?_
            refine WL.done rfl ?_
            refine QX.then_normal (hK60 _ _ ?_)
            refine WC.seq (fun K61 hK62 => ?_)
            refine WC.test_at 57 (decide ((i : Int) < (ops.length : Int))) rfl (fun t63b => ?_) (fun t63b => ?_)
            · -- (i : Int) < (ops.length : Int): true
              have t63 : (i : Int) < (ops.length : Int) := by have q_ := of_decide_eq_true t63b; omega
              refine WC.cond_true rfl ?_
              refine WC.skip ?_
              refine QX.then_normal (hK62 _ _ ?_)
              refine WC.seq (fun K64 hK65 => ?_)
              refine WC.block ?_
              refine WC.seq (fun K66 hK67 => ?_)
              refine WC.region ?_
              obtain ⟨e68, he69⟩ := get_some (xs := ops) (i := i) (by omega)
              obtain ⟨b70, o72, hA71, hc73⟩ := hops.at_ _ _ he69
              have hop_e68 := hok _ (List.mem_of_getElem? he69)
              have hle_e68 := hop_e68.len
              refine WL.index C ops.length c 58 .i64 (i : Int) b70 o72 i 11 (by kernel_rfl) hA71 (by omega) (by omega) (o72 + i * 11) (by first | (simp; done) | omega) ?_
              refine WL.load 53 (.pointer (some ⟨b70, o72 + i * 11, none⟩)) (.agg #[.int .i64 e68.kind, .int .i64 e68.flow.proto, .int .u32 e68.flow.src, .int .i64 e68.flow.sport, .int .u32 e68.flow.dst, .int .i64 e68.flow.dport, .slice e68.A e68.n e68.c, .int .u32 e68.dip, .int .i64 e68.ep, .int .i64 e68.flags, .int .i64 e68.now]) 59 (by kernel_rfl) (run_rdN (l := [.int .i64 e68.kind, .int .i64 e68.flow.proto, .int .u32 e68.flow.src, .int .i64 e68.flow.sport, .int .u32 e68.flow.dst, .int .i64 e68.flow.dport, .slice e68.A e68.n e68.c, .int .u32 e68.dip, .int .i64 e68.ep, .int .i64 e68.flags, .int .i64 e68.now]) rfl rfl (fun j u hu => by have hq_ := hC58.fr.cell (hc73 j u hu) (by simp); simpa [Nat.add_assoc] using hq_)) ?_
              refine WL.newM hC58 (fun b => .pointer (some ⟨b, 0, none⟩)) (.cells #[.int .i64 0, .int .i64 0, .int .u32 0, .int .i64 0, .int .u32 0, .int .i64 0, .slice none 0 0, .int .u32 0, .int .i64 0, .int .i64 0, .int .i64 0] 53) 10 (fun _ => by kernel_rfl) (fun g74 w75 hb78 hF76 hC77 => ?_)
              have hf79 := tbAt_fr hT5 hF76 (by simp)
              refine WL.storeM (c' := #[.int .i64 e68.kind, .int .i64 e68.flow.proto, .int .u32 e68.flow.src, .int .i64 e68.flow.sport, .int .u32 e68.flow.dst, .int .i64 e68.flow.dport, .slice e68.A e68.n e68.c, .int .u32 e68.dip, .int .i64 e68.ep, .int .i64 e68.flags, .int .i64 e68.now]) hC77 0 53 g74 0 (.agg #[.int .i64 e68.kind, .int .i64 e68.flow.proto, .int .u32 e68.flow.src, .int .i64 e68.flow.sport, .int .u32 e68.flow.dst, .int .i64 e68.flow.dport, .slice e68.A e68.n e68.c, .int .u32 e68.dip, .int .i64 e68.ep, .int .i64 e68.flags, .int .i64 e68.now]) (by kernel_rfl) rfl (by kernel_rfl) (fun w80 hF82 hC83 => ?_)
              have hf84 := tbAt_fr hf79 hF82 (hC77.apartM 0 0 rfl rfl)
              refine WL.done rfl ?_
              refine QX.then_normal (hK67 _ _ ?_)
              refine WC.seq (fun K85 hK86 => ?_)
              refine WC.region ?_
              refine WL.runs 2 [(62, .pointer (some ⟨g74, 1, none⟩)), (61, .pointer (some ⟨p35, 0, none⟩))] (fun _ => by kernel_rfl) ?_
              refine WL.load 32 (.pointer (some ⟨g74, 1, none⟩)) (.agg #[.int .i64 e68.flow.proto, .int .u32 e68.flow.src, .int .i64 e68.flow.sport, .int .u32 e68.flow.dst, .int .i64 e68.flow.dport]) 63 (by kernel_rfl) (run_ld (hC83.get 0 rfl) rfl) ?_
              refine WL.call rfl rfl rfl rfl rfl (by kernel_rfl) (Get_ct p35 b36 T5 e68.flow w80 hf84) ?_
              rintro _ w88 ⟨rfl, hF87⟩
              refine ⟨_, rfl, ?_⟩
              have hC89 := hC83.call hF87
              have hf90 := tbAt_fr hf84 hF87 (by simp)
              refine WL.runs 3 [(66, .bool ((lookL T5.m e68.flow).isSome)), (65, .agg #[.int .i64 (((lookL T5.m e68.flow).getD zeroE).flow.proto), .int .u32 (((lookL T5.m e68.flow).getD zeroE).flow.src), .int .i64 (((lookL T5.m e68.flow).getD zeroE).flow.sport), .int .u32 (((lookL T5.m e68.flow).getD zeroE).flow.dst), .int .i64 (((lookL T5.m e68.flow).getD zeroE).flow.dport), .int .u32 (((lookL T5.m e68.flow).getD zeroE).dip), .int .i64 (((lookL T5.m e68.flow).getD zeroE).epoch), .bool (((lookL T5.m e68.flow).getD zeroE).trusted), .bool (((lookL T5.m e68.flow).getD zeroE).closing), .int .i64 (((lookL T5.m e68.flow).getD zeroE).last)]), (60, .tuple #[.agg #[.int .i64 (((lookL T5.m e68.flow).getD zeroE).flow.proto), .int .u32 (((lookL T5.m e68.flow).getD zeroE).flow.src), .int .i64 (((lookL T5.m e68.flow).getD zeroE).flow.sport), .int .u32 (((lookL T5.m e68.flow).getD zeroE).flow.dst), .int .i64 (((lookL T5.m e68.flow).getD zeroE).flow.dport), .int .u32 (((lookL T5.m e68.flow).getD zeroE).dip), .int .i64 (((lookL T5.m e68.flow).getD zeroE).epoch), .bool (((lookL T5.m e68.flow).getD zeroE).trusted), .bool (((lookL T5.m e68.flow).getD zeroE).closing), .int .i64 (((lookL T5.m e68.flow).getD zeroE).last)], .bool ((lookL T5.m e68.flow).isSome)])] (fun _ => by kernel_rfl) ?_
              refine WL.newM hC89 (fun b => .pointer (some ⟨b, 0, none⟩)) (.cells #[.int .i64 0, .int .u32 0, .int .i64 0, .int .u32 0, .int .i64 0, .int .u32 0, .int .i64 0, .bool false, .bool false, .int .i64 0] 34) 11 (fun _ => by kernel_rfl) (fun g91 w92 hb95 hF93 hC94 => ?_)
              have hf96 := tbAt_fr hf90 hF93 (by simp)
              refine WL.storeM (c' := #[.int .i64 (((lookL T5.m e68.flow).getD zeroE).flow.proto), .int .u32 (((lookL T5.m e68.flow).getD zeroE).flow.src), .int .i64 (((lookL T5.m e68.flow).getD zeroE).flow.sport), .int .u32 (((lookL T5.m e68.flow).getD zeroE).flow.dst), .int .i64 (((lookL T5.m e68.flow).getD zeroE).flow.dport), .int .u32 (((lookL T5.m e68.flow).getD zeroE).dip), .int .i64 (((lookL T5.m e68.flow).getD zeroE).epoch), .bool (((lookL T5.m e68.flow).getD zeroE).trusted), .bool (((lookL T5.m e68.flow).getD zeroE).closing), .int .i64 (((lookL T5.m e68.flow).getD zeroE).last)]) hC94 1 34 g91 0 (.agg #[.int .i64 (((lookL T5.m e68.flow).getD zeroE).flow.proto), .int .u32 (((lookL T5.m e68.flow).getD zeroE).flow.src), .int .i64 (((lookL T5.m e68.flow).getD zeroE).flow.sport), .int .u32 (((lookL T5.m e68.flow).getD zeroE).flow.dst), .int .i64 (((lookL T5.m e68.flow).getD zeroE).flow.dport), .int .u32 (((lookL T5.m e68.flow).getD zeroE).dip), .int .i64 (((lookL T5.m e68.flow).getD zeroE).epoch), .bool (((lookL T5.m e68.flow).getD zeroE).trusted), .bool (((lookL T5.m e68.flow).getD zeroE).closing), .int .i64 (((lookL T5.m e68.flow).getD zeroE).last)]) (by kernel_rfl) rfl (by kernel_rfl) (fun w97 hF99 hC100 => ?_)
              have hf101 := tbAt_fr hf96 hF99 (hC94.apartM 0 1 rfl rfl)
              refine WL.runs 1 [(12, .bool ((lookL T5.m e68.flow).isSome))] (fun _ => by kernel_rfl) ?_
              refine WL.done rfl ?_
              refine QX.then_normal (hK86 _ _ ?_)
              refine WC.seqI (fun E_ w_ => ∃ (T6 : Tb), E_ = [(0, .int .i64 tr), (1, .int .i64 un), (2, .slice C ops.length c), (7, .pointer (some ⟨p35, 0, none⟩)), (54, .slice C ops.length c), (55, .int .i64 (ops.length : Int)), (56, .int .i64 (i : Int))] ∧ Cx w [] w_ [(g74, .cells #[.int .i64 e68.kind, .int .i64 e68.flow.proto, .int .u32 e68.flow.src, .int .i64 e68.flow.sport, .int .u32 e68.flow.dst, .int .i64 e68.flow.dport, .slice e68.A e68.n e68.c, .int .u32 e68.dip, .int .i64 e68.ep, .int .i64 e68.flags, .int .i64 e68.now] 53), (g91, .cells #[.int .i64 (((lookL T5.m e68.flow).getD zeroE).flow.proto), .int .u32 (((lookL T5.m e68.flow).getD zeroE).flow.src), .int .i64 (((lookL T5.m e68.flow).getD zeroE).flow.sport), .int .u32 (((lookL T5.m e68.flow).getD zeroE).flow.dst), .int .i64 (((lookL T5.m e68.flow).getD zeroE).flow.dport), .int .u32 (((lookL T5.m e68.flow).getD zeroE).dip), .int .i64 (((lookL T5.m e68.flow).getD zeroE).epoch), .bool (((lookL T5.m e68.flow).getD zeroE).trusted), .bool (((lookL T5.m e68.flow).getD zeroE).closing), .int .i64 (((lookL T5.m e68.flow).getD zeroE).last)] 34)] [[p35, b36]] ∧ tbAt w_ p35 b36 T6 ∧ (TOk T6 ∧ T6.tm = tr ∧ T6.um = un)) (fun K102 hK103 => ?_) ?_
              · skip
                refine WC.seq (fun K107 hK108 => ?_)
                refine WC.region ?_
                refine WL.runs 1 [(67, .pointer (some ⟨g74, 0, none⟩))] (fun _ => by kernel_rfl) ?_
                refine WL.load 3 (.pointer (some ⟨g74, 0, none⟩)) (.int .i64 e68.kind) 68 (by kernel_rfl) (run_ld (hC100.get 0 rfl) rfl) ?_
                refine WL.done rfl ?_
                refine QX.then_normal (hK108 _ _ ?_)
                refine WC.block ?_
                refine WC.seq (fun K109 hK110 => ?_)
                refine WC.region ?_
                refine WL.runs 2 [(73, .bool (e68.kind == 0)), (74, .bool (e68.kind == 0))] (fun _ => by kernel_rfl) ?_
                refine WL.done rfl ?_
                refine QX.then_normal (hK110 _ _ ?_)
                refine WC.test_at 73 (e68.kind == 0) rfl (fun t111b => ?_) (fun t111b => ?_)
                · -- e68.kind = 0: true
                  have t111 : e68.kind = 0 := by simpa using t111b
                  refine WC.cond_true rfl ?_
                  refine WC.seq (fun K112 hK113 => ?_)
                  refine WC.region ?_
                  refine WL.runs 2 [(77, .pointer (some ⟨g74, 1, none⟩)), (76, .pointer (some ⟨p35, 0, none⟩))] (fun _ => by kernel_rfl) ?_
                  refine WL.load 32 (.pointer (some ⟨g74, 1, none⟩)) (.agg #[.int .i64 e68.flow.proto, .int .u32 e68.flow.src, .int .i64 e68.flow.sport, .int .u32 e68.flow.dst, .int .i64 e68.flow.dport]) 78 (by kernel_rfl) (run_ld (hC100.get 0 rfl) rfl) ?_
                  refine WL.runs 1 [(79, .pointer (some ⟨g74, 7, none⟩))] (fun _ => by kernel_rfl) ?_
                  refine WL.load 30 (.pointer (some ⟨g74, 7, none⟩)) (.int .u32 e68.dip) 80 (by kernel_rfl) (run_ld (hC100.get 0 rfl) rfl) ?_
                  refine WL.runs 1 [(81, .pointer (some ⟨g74, 8, none⟩))] (fun _ => by kernel_rfl) ?_
                  refine WL.load 3 (.pointer (some ⟨g74, 8, none⟩)) (.int .i64 e68.ep) 82 (by kernel_rfl) (run_ld (hC100.get 0 rfl) rfl) ?_
                  refine WL.runs 1 [(83, .pointer (some ⟨g74, 10, none⟩))] (fun _ => by kernel_rfl) ?_
                  refine WL.load 3 (.pointer (some ⟨g74, 10, none⟩)) (.int .i64 e68.now) 84 (by kernel_rfl) (run_ld (hC100.get 0 rfl) rfl) ?_
                  refine WL.call rfl rfl rfl rfl rfl (by kernel_rfl) (Put_ct p35 b36 T5 e68.flow e68.dip e68.ep e68.now w97 hf101 hok5.bth hok5.buh) ?_
                  rintro _ w120 ⟨T114, o115, fd116, er117, rfl, hF119, hT122, hrel118⟩
                  have hok123 := hok5.put (by rw [hms5.2]; omega) hrel118
                  have hms124 := And.intro ((put_ms hrel118).1.trans hms5.1) ((put_ms hrel118).2.trans hms5.2)
                  have hC121 := hC100.callF 0 rfl hF119 (fun _ hx_ => .inl hx_) (tbAt_lt hT122)
                  refine ⟨_, rfl, ?_⟩
                  refine WL.runs 4 [(88, errV 47 er117), (87, .bool fd116), (86, .agg #[.int .i64 o115.flow.proto, .int .u32 o115.flow.src, .int .i64 o115.flow.sport, .int .u32 o115.flow.dst, .int .i64 o115.flow.dport, .int .u32 o115.dip, .int .i64 o115.epoch, .bool o115.trusted, .bool o115.closing, .int .i64 o115.last]), (75, .tuple #[.agg #[.int .i64 o115.flow.proto, .int .u32 o115.flow.src, .int .i64 o115.flow.sport, .int .u32 o115.flow.dst, .int .i64 o115.flow.dport, .int .u32 o115.dip, .int .i64 o115.epoch, .bool o115.trusted, .bool o115.closing, .int .i64 o115.last], .bool fd116, errV 47 er117])] (fun _ => by kernel_rfl) ?_
                  refine WL.newM hC121 (fun b => .pointer (some ⟨b, 0, none⟩)) (.cells #[.int .i64 0, .int .u32 0, .int .i64 0, .int .u32 0, .int .i64 0, .int .u32 0, .int .i64 0, .bool false, .bool false, .int .i64 0] 34) 13 (fun _ => by kernel_rfl) (fun g125 w126 hb129 hF127 hC128 => ?_)
                  have hf130 := tbAt_fr hT122 hF127 (by simp)
                  refine WL.storeM (c' := #[.int .i64 o115.flow.proto, .int .u32 o115.flow.src, .int .i64 o115.flow.sport, .int .u32 o115.flow.dst, .int .i64 o115.flow.dport, .int .u32 o115.dip, .int .i64 o115.epoch, .bool o115.trusted, .bool o115.closing, .int .i64 o115.last]) hC128 2 34 g125 0 (.agg #[.int .i64 o115.flow.proto, .int .u32 o115.flow.src, .int .i64 o115.flow.sport, .int .u32 o115.flow.dst, .int .i64 o115.flow.dport, .int .u32 o115.dip, .int .i64 o115.epoch, .bool o115.trusted, .bool o115.closing, .int .i64 o115.last]) (by kernel_rfl) rfl (by kernel_rfl) (fun w131 hF133 hC134 => ?_)
                  have hf135 := tbAt_fr hf130 hF133 (hC128.apartM 0 2 rfl rfl)
                  refine WL.runs 2 [(15, errV 47 er117), (14, .bool fd116)] (fun _ => by kernel_rfl) ?_
                  refine WL.done rfl ?_
                  refine QX.then_normal (hK113 _ _ ?_)
                  refine WC.seq (fun K136 hK137 => ?_)
                  refine WC.seq (fun K138 hK139 => ?_)
                  refine WC.region ?_
                  refine WL.runs 2 [(90, .bool fd116), (89, .bool fd116)] (fun _ => by kernel_rfl) ?_
                  refine WL.test_at 90 (fd116) rfl (fun t140b => ?_) (fun t140b => ?_)
                  · -- fd116 = true: true
                    refine WL.runs 1 [(91, .pointer (some ⟨g125, 7, none⟩))] (fun _ => by kernel_rfl) ?_
                    refine WL.load 4 (.pointer (some ⟨g125, 7, none⟩)) (.bool o115.trusted) 92 (by kernel_rfl) (run_ld (hC134.get 2 rfl) rfl) ?_
                    refine WL.runs 1 [(93, .bool o115.trusted)] (fun _ => by kernel_rfl) ?_
                    refine WL.know 93 (.bool o115.trusted) (.bool false) rfl (congrArg Value.bool (by exact (put_out hok5 (by rw [hms5.2]; omega) hrel118 t140b).1)) ?_
                    refine WL.runs 3 [(96, .bool ((lookL T5.m e68.flow).isSome)), (95, .bool ((lookL T5.m e68.flow).isSome)), (94, .bool ((lookL T5.m e68.flow).isSome))] (fun _ => by kernel_rfl) ?_
                    refine WL.know 96 (.bool ((lookL T5.m e68.flow).isSome)) (.bool false) rfl (congrArg Value.bool (by exact (put_out hok5 (by rw [hms5.2]; omega) hrel118 t140b).2.1)) ?_
                    refine WL.runs 1 [(97, errV 47 er117)] (fun _ => by kernel_rfl) ?_
                    have hr141 : ∀ w_, Sem.run Try.prog (do eqGuard .neq 26 (Operand.tmp 97) (Operand.const (.nilIface)) (errV 47 er117) (.nilIface); binOp .neq 26 (errV 47 er117) (.nilIface)) w_ = .ok (.bool (!(decide (er117 = 0)))) w_ := fun w_ => (err_neq _ er117 (decide (er117 = 0)) (by rfl) _)
                    refine WL.sem (do eqGuard .neq 26 (Operand.tmp 97) (Operand.const (.nilIface)) (errV 47 er117) (.nilIface); binOp .neq 26 (errV 47 er117) (.nilIface)) 98 (.bool (!(decide (er117 = 0)))) (by kernel_rfl) (hr141 _) ?_
                    refine WL.runs 2 [(100, .bool (!(decide (er117 = 0)))), (99, .bool (!(decide (er117 = 0))))] (fun _ => by kernel_rfl) ?_
                    refine WL.done rfl ?_
                    refine QX.then_normal (hK139 _ _ ?_)
                    refine WC.know 100 (.bool (!(decide (er117 = 0)))) (.bool false) rfl (congrArg Value.bool (by rw [(put_out hok5 (by rw [hms5.2]; omega) hrel118 t140b).2.2]; rfl)) ?_
                    refine WC.cond_false rfl ?_
                    refine WC.skip ?_
                    refine QX.then_normal (hK137 _ _ ?_)
                    refine WC.seq (fun K142 hK143 => ?_)
                    refine WC.region ?_
                    refine WL.runs 2 [(103, .pointer (some ⟨g74, 1, none⟩)), (102, .pointer (some ⟨p35, 0, none⟩))] (fun _ => by kernel_rfl) ?_
                    refine WL.load 32 (.pointer (some ⟨g74, 1, none⟩)) (.agg #[.int .i64 e68.flow.proto, .int .u32 e68.flow.src, .int .i64 e68.flow.sport, .int .u32 e68.flow.dst, .int .i64 e68.flow.dport]) 104 (by kernel_rfl) (run_ld (hC134.get 0 rfl) rfl) ?_
                    refine WL.call rfl rfl rfl rfl rfl (by kernel_rfl) (Get_ct p35 b36 T114 e68.flow w131 hf135) ?_
                    rintro _ w145 ⟨rfl, hF144⟩
                    refine ⟨_, rfl, ?_⟩
                    have hC146 := hC134.call hF144
                    have hf147 := tbAt_fr hf135 hF144 (by simp)
                    refine WL.runs 3 [(107, .bool ((lookL T114.m e68.flow).isSome)), (106, .agg #[.int .i64 (((lookL T114.m e68.flow).getD zeroE).flow.proto), .int .u32 (((lookL T114.m e68.flow).getD zeroE).flow.src), .int .i64 (((lookL T114.m e68.flow).getD zeroE).flow.sport), .int .u32 (((lookL T114.m e68.flow).getD zeroE).flow.dst), .int .i64 (((lookL T114.m e68.flow).getD zeroE).flow.dport), .int .u32 (((lookL T114.m e68.flow).getD zeroE).dip), .int .i64 (((lookL T114.m e68.flow).getD zeroE).epoch), .bool (((lookL T114.m e68.flow).getD zeroE).trusted), .bool (((lookL T114.m e68.flow).getD zeroE).closing), .int .i64 (((lookL T114.m e68.flow).getD zeroE).last)]), (101, .tuple #[.agg #[.int .i64 (((lookL T114.m e68.flow).getD zeroE).flow.proto), .int .u32 (((lookL T114.m e68.flow).getD zeroE).flow.src), .int .i64 (((lookL T114.m e68.flow).getD zeroE).flow.sport), .int .u32 (((lookL T114.m e68.flow).getD zeroE).flow.dst), .int .i64 (((lookL T114.m e68.flow).getD zeroE).flow.dport), .int .u32 (((lookL T114.m e68.flow).getD zeroE).dip), .int .i64 (((lookL T114.m e68.flow).getD zeroE).epoch), .bool (((lookL T114.m e68.flow).getD zeroE).trusted), .bool (((lookL T114.m e68.flow).getD zeroE).closing), .int .i64 (((lookL T114.m e68.flow).getD zeroE).last)], .bool ((lookL T114.m e68.flow).isSome)])] (fun _ => by kernel_rfl) ?_
                    refine WL.newM hC146 (fun b => .pointer (some ⟨b, 0, none⟩)) (.cells #[.int .i64 0, .int .u32 0, .int .i64 0, .int .u32 0, .int .i64 0, .int .u32 0, .int .i64 0, .bool false, .bool false, .int .i64 0] 34) 16 (fun _ => by kernel_rfl) (fun g148 w149 hb152 hF150 hC151 => ?_)
                    have hf153 := tbAt_fr hf147 hF150 (by simp)
                    refine WL.storeM (c' := #[.int .i64 (((lookL T114.m e68.flow).getD zeroE).flow.proto), .int .u32 (((lookL T114.m e68.flow).getD zeroE).flow.src), .int .i64 (((lookL T114.m e68.flow).getD zeroE).flow.sport), .int .u32 (((lookL T114.m e68.flow).getD zeroE).flow.dst), .int .i64 (((lookL T114.m e68.flow).getD zeroE).flow.dport), .int .u32 (((lookL T114.m e68.flow).getD zeroE).dip), .int .i64 (((lookL T114.m e68.flow).getD zeroE).epoch), .bool (((lookL T114.m e68.flow).getD zeroE).trusted), .bool (((lookL T114.m e68.flow).getD zeroE).closing), .int .i64 (((lookL T114.m e68.flow).getD zeroE).last)]) hC151 3 34 g148 0 (.agg #[.int .i64 (((lookL T114.m e68.flow).getD zeroE).flow.proto), .int .u32 (((lookL T114.m e68.flow).getD zeroE).flow.src), .int .i64 (((lookL T114.m e68.flow).getD zeroE).flow.sport), .int .u32 (((lookL T114.m e68.flow).getD zeroE).flow.dst), .int .i64 (((lookL T114.m e68.flow).getD zeroE).flow.dport), .int .u32 (((lookL T114.m e68.flow).getD zeroE).dip), .int .i64 (((lookL T114.m e68.flow).getD zeroE).epoch), .bool (((lookL T114.m e68.flow).getD zeroE).trusted), .bool (((lookL T114.m e68.flow).getD zeroE).closing), .int .i64 (((lookL T114.m e68.flow).getD zeroE).last)]) (by kernel_rfl) rfl (by kernel_rfl) (fun w154 hF156 hC157 => ?_)
                    have hf158 := tbAt_fr hf153 hF156 (hC151.apartM 0 3 rfl rfl)
                    refine WL.runs 1 [(17, .bool ((lookL T114.m e68.flow).isSome))] (fun _ => by kernel_rfl) ?_
                    refine WL.done rfl ?_
                    refine QX.then_normal (hK143 _ _ ?_)
                    refine WC.seq (fun K159 hK160 => ?_)
                    refine WC.region ?_
                    refine WL.runs 1 [(108, errV 47 er117)] (fun _ => by kernel_rfl) ?_
                    have hr161 : ∀ w_, Sem.run Try.prog (do eqGuard .eql 26 (Operand.tmp 108) (Operand.const (.nilIface)) (errV 47 er117) (.nilIface); binOp .eql 26 (errV 47 er117) (.nilIface)) w_ = .ok (.bool (decide (er117 = 0))) w_ := fun w_ => (err_eql _ er117 (decide (er117 = 0)) (by rfl) _)
                    refine WL.sem (do eqGuard .eql 26 (Operand.tmp 108) (Operand.const (.nilIface)) (errV 47 er117) (.nilIface); binOp .eql 26 (errV 47 er117) (.nilIface)) 109 (.bool (decide (er117 = 0))) (by kernel_rfl) (hr161 _) ?_
                    refine WL.runs 1 [(110, .bool (decide (er117 = 0)))] (fun _ => by kernel_rfl) ?_
                    refine WL.test_at 110 (decide (er117 = 0)) rfl (fun t162b => ?_) (fun t162b => ?_)
                    · -- (decide (er117 = 0)) = true: true
                      refine WL.runs 3 [(113, .bool (!((lookL T114.m e68.flow).isSome))), (112, .bool (!((lookL T114.m e68.flow).isSome))), (111, .bool ((lookL T114.m e68.flow).isSome))] (fun _ => by kernel_rfl) ?_
                      refine WL.know 113 (.bool (!((lookL T114.m e68.flow).isSome))) (.bool false) rfl (congrArg Value.bool (by rw [(put_got hrel118 (by simpa using t162b)).1]; rfl)) ?_
                      refine WL.runs 1 [(114, .pointer (some ⟨g148, 5, none⟩))] (fun _ => by kernel_rfl) ?_
                      refine WL.load 30 (.pointer (some ⟨g148, 5, none⟩)) (.int .u32 (((lookL T114.m e68.flow).getD zeroE).dip)) 115 (by kernel_rfl) (run_ld (hC157.get 3 rfl) rfl) ?_
                      refine WL.runs 1 [(116, .pointer (some ⟨g74, 7, none⟩))] (fun _ => by kernel_rfl) ?_
                      refine WL.load 30 (.pointer (some ⟨g74, 7, none⟩)) (.int .u32 e68.dip) 117 (by kernel_rfl) (run_ld (hC157.get 0 rfl) rfl) ?_
                      refine WL.runs 3 [(120, .bool ((((lookL T114.m e68.flow).getD zeroE).dip) != e68.dip)), (119, .bool ((((lookL T114.m e68.flow).getD zeroE).dip) != e68.dip)), (118, .bool ((((lookL T114.m e68.flow).getD zeroE).dip) != e68.dip))] (fun _ => by kernel_rfl) ?_
                      refine WL.know 120 (.bool ((((lookL T114.m e68.flow).getD zeroE).dip) != e68.dip)) (.bool false) rfl (congrArg Value.bool (by rw [(put_got hrel118 (by simpa using t162b)).2.1]; simp)) ?_
                      refine WL.runs 1 [(121, .pointer (some ⟨g148, 6, none⟩))] (fun _ => by kernel_rfl) ?_
                      refine WL.load 3 (.pointer (some ⟨g148, 6, none⟩)) (.int .i64 (((lookL T114.m e68.flow).getD zeroE).epoch)) 122 (by kernel_rfl) (run_ld (hC157.get 3 rfl) rfl) ?_
                      refine WL.runs 1 [(123, .pointer (some ⟨g74, 8, none⟩))] (fun _ => by kernel_rfl) ?_
                      refine WL.load 3 (.pointer (some ⟨g74, 8, none⟩)) (.int .i64 e68.ep) 124 (by kernel_rfl) (run_ld (hC157.get 0 rfl) rfl) ?_
                      refine WL.runs 3 [(127, .bool ((((lookL T114.m e68.flow).getD zeroE).epoch) != e68.ep)), (126, .bool ((((lookL T114.m e68.flow).getD zeroE).epoch) != e68.ep)), (125, .bool ((((lookL T114.m e68.flow).getD zeroE).epoch) != e68.ep))] (fun _ => by kernel_rfl) ?_
                      refine WL.know 127 (.bool ((((lookL T114.m e68.flow).getD zeroE).epoch) != e68.ep)) (.bool false) rfl (congrArg Value.bool (by rw [(put_got hrel118 (by simpa using t162b)).2.2.1]; simp)) ?_
                      refine WL.runs 2 [(129, .bool ((lookL T5.m e68.flow).isSome)), (128, .bool ((lookL T5.m e68.flow).isSome))] (fun _ => by kernel_rfl) ?_
                      refine WL.test_at 129 ((lookL T5.m e68.flow).isSome) rfl (fun t163b => ?_) (fun t163b => ?_)
                      · -- ((lookL T5.m e68.flow).isSome) = true: true
                        refine WL.runs 1 [(130, .pointer (some ⟨g148, 7, none⟩))] (fun _ => by kernel_rfl) ?_
                        refine WL.load 4 (.pointer (some ⟨g148, 7, none⟩)) (.bool (((lookL T114.m e68.flow).getD zeroE).trusted)) 131 (by kernel_rfl) (run_ld (hC157.get 3 rfl) rfl) ?_
                        refine WL.runs 1 [(132, .pointer (some ⟨g91, 7, none⟩))] (fun _ => by kernel_rfl) ?_
                        refine WL.load 4 (.pointer (some ⟨g91, 7, none⟩)) (.bool (((lookL T5.m e68.flow).getD zeroE).trusted)) 133 (by kernel_rfl) (run_ld (hC157.get 1 rfl) rfl) ?_
                        refine WL.runs 4 [(137, .bool ((((lookL T114.m e68.flow).getD zeroE).trusted) != (((lookL T5.m e68.flow).getD zeroE).trusted))), (136, .bool ((((lookL T114.m e68.flow).getD zeroE).trusted) != (((lookL T5.m e68.flow).getD zeroE).trusted))), (135, .bool ((((lookL T114.m e68.flow).getD zeroE).trusted) != (((lookL T5.m e68.flow).getD zeroE).trusted))), (134, .bool ((((lookL T114.m e68.flow).getD zeroE).trusted) != (((lookL T5.m e68.flow).getD zeroE).trusted)))] (fun _ => by kernel_rfl) ?_
                        refine WL.know 137 (.bool ((((lookL T114.m e68.flow).getD zeroE).trusted) != (((lookL T5.m e68.flow).getD zeroE).trusted))) (.bool false) rfl (congrArg Value.bool (by rw [(put_got hrel118 (by simpa using t162b)).2.2.2]; simp)) ?_
                        refine WL.runs 3 [(140, .bool (!((lookL T5.m e68.flow).isSome))), (139, .bool (!((lookL T5.m e68.flow).isSome))), (138, .bool ((lookL T5.m e68.flow).isSome))] (fun _ => by kernel_rfl) ?_
                        refine WL.know 140 (.bool (!((lookL T5.m e68.flow).isSome))) (.bool false) rfl (congrArg Value.bool (by rw [t163b]; rfl)) ?_
                        refine WL.runs 5 [(145, .bool false), (144, .bool false), (143, .bool false), (142, undef), (141, undef)] (fun _ => by kernel_rfl) ?_
                        refine WL.done rfl ?_
                        refine QX.then_normal (hK160 _ _ ?_)
                        refine WC.cond_false rfl ?_
                        refine WC.skip ?_
                        refine QX.block_normal ?_
                        refine QX.then_normal ?_
                        have hC164 := hC157.pickM [0, 1] [0] (by decide) rfl rfl
                        exact fun a_ ha_ => hK103 _ _ ⟨T114, rfl, hC164, hf158, hok123, hms124⟩ a_ (ha_.weaken (sub_of ⟨rfl, rfl, rfl, rfl, rfl, rfl, rfl, trivial⟩))
                      · -- ((lookL T5.m e68.flow).isSome) = true: false
                        refine WL.runs 11 [(140, .bool (!((lookL T5.m e68.flow).isSome))), (139, .bool (!((lookL T5.m e68.flow).isSome))), (138, .bool ((lookL T5.m e68.flow).isSome)), (137, .bool false), (136, .bool false), (135, .bool false), (134, undef), (133, undef), (132, undef), (131, undef), (130, undef)] (fun _ => by kernel_rfl) ?_
                        refine WL.know 140 (.bool (!((lookL T5.m e68.flow).isSome))) (.bool true) rfl (congrArg Value.bool (by rw [t163b]; rfl)) ?_
                        refine WL.runs 1 [(141, .pointer (some ⟨g148, 7, none⟩))] (fun _ => by kernel_rfl) ?_
                        refine WL.load 4 (.pointer (some ⟨g148, 7, none⟩)) (.bool (((lookL T114.m e68.flow).getD zeroE).trusted)) 142 (by kernel_rfl) (run_ld (hC157.get 3 rfl) rfl) ?_
                        refine WL.runs 3 [(145, .bool (((lookL T114.m e68.flow).getD zeroE).trusted)), (144, .bool (((lookL T114.m e68.flow).getD zeroE).trusted)), (143, .bool (((lookL T114.m e68.flow).getD zeroE).trusted))] (fun _ => by kernel_rfl) ?_
                        refine WL.done rfl ?_
                        refine QX.then_normal (hK160 _ _ ?_)
                        refine WC.know 145 (.bool (((lookL T114.m e68.flow).getD zeroE).trusted)) (.bool false) rfl (congrArg Value.bool (by rw [(put_got hrel118 (by simpa using t162b)).2.2.2, show lookL T5.m e68.flow = none from by simpa using t163b]; rfl)) ?_
                        refine WC.cond_false rfl ?_
                        refine WC.skip ?_
                        refine QX.block_normal ?_
                        refine QX.then_normal ?_
                        have hC165 := hC157.pickM [0, 1] [0] (by decide) rfl rfl
                        exact fun a_ ha_ => hK103 _ _ ⟨T114, rfl, hC165, hf158, hok123, hms124⟩ a_ (ha_.weaken (sub_of ⟨rfl, rfl, rfl, rfl, rfl, rfl, rfl, trivial⟩))
                    · -- (decide (er117 = 0)) = true: false
                      refine WL.runs 35 [(145, .bool false), (144, undef), (143, undef), (142, undef), (141, undef), (140, undef), (139, undef), (138, undef), (137, undef), (136, undef), (135, undef), (134, undef), (133, undef), (132, undef), (131, undef), (130, undef), (129, undef), (128, undef), (127, undef), (126, undef), (125, undef), (124, undef), (123, undef), (122, undef), (121, undef), (120, undef), (119, undef), (118, undef), (117, undef), (116, undef), (115, undef), (114, undef), (113, undef), (112, undef), (111, undef)] (fun _ => by kernel_rfl) ?_
                      refine WL.done rfl ?_
                      refine QX.then_normal (hK160 _ _ ?_)
                      refine WC.cond_false rfl ?_
                      refine WC.skip ?_
                      refine QX.block_normal ?_
                      refine QX.then_normal ?_
                      have hC166 := hC157.pickM [0, 1] [0] (by decide) rfl rfl
                      exact fun a_ ha_ => hK103 _ _ ⟨T114, rfl, hC166, hf158, hok123, hms124⟩ a_ (ha_.weaken (sub_of ⟨rfl, rfl, rfl, rfl, rfl, rfl, rfl, trivial⟩))
                  · -- fd116 = true: false
                    refine WL.runs 10 [(100, .bool false), (99, undef), (98, undef), (97, undef), (96, undef), (95, undef), (94, undef), (93, undef), (92, undef), (91, undef)] (fun _ => by kernel_rfl) ?_
                    refine WL.done rfl ?_
                    refine QX.then_normal (hK139 _ _ ?_)
                    refine WC.cond_false rfl ?_
                    refine WC.skip ?_
                    refine QX.then_normal (hK137 _ _ ?_)
                    refine WC.seq (fun K167 hK168 => ?_)
                    refine WC.region ?_
                    refine WL.runs 2 [(103, .pointer (some ⟨g74, 1, none⟩)), (102, .pointer (some ⟨p35, 0, none⟩))] (fun _ => by kernel_rfl) ?_
                    refine WL.load 32 (.pointer (some ⟨g74, 1, none⟩)) (.agg #[.int .i64 e68.flow.proto, .int .u32 e68.flow.src, .int .i64 e68.flow.sport, .int .u32 e68.flow.dst, .int .i64 e68.flow.dport]) 104 (by kernel_rfl) (run_ld (hC134.get 0 rfl) rfl) ?_
                    refine WL.call rfl rfl rfl rfl rfl (by kernel_rfl) (Get_ct p35 b36 T114 e68.flow w131 hf135) ?_
                    rintro _ w170 ⟨rfl, hF169⟩
                    refine ⟨_, rfl, ?_⟩
                    have hC171 := hC134.call hF169
                    have hf172 := tbAt_fr hf135 hF169 (by simp)
                    refine WL.runs 3 [(107, .bool ((lookL T114.m e68.flow).isSome)), (106, .agg #[.int .i64 (((lookL T114.m e68.flow).getD zeroE).flow.proto), .int .u32 (((lookL T114.m e68.flow).getD zeroE).flow.src), .int .i64 (((lookL T114.m e68.flow).getD zeroE).flow.sport), .int .u32 (((lookL T114.m e68.flow).getD zeroE).flow.dst), .int .i64 (((lookL T114.m e68.flow).getD zeroE).flow.dport), .int .u32 (((lookL T114.m e68.flow).getD zeroE).dip), .int .i64 (((lookL T114.m e68.flow).getD zeroE).epoch), .bool (((lookL T114.m e68.flow).getD zeroE).trusted), .bool (((lookL T114.m e68.flow).getD zeroE).closing), .int .i64 (((lookL T114.m e68.flow).getD zeroE).last)]), (101, .tuple #[.agg #[.int .i64 (((lookL T114.m e68.flow).getD zeroE).flow.proto), .int .u32 (((lookL T114.m e68.flow).getD zeroE).flow.src), .int .i64 (((lookL T114.m e68.flow).getD zeroE).flow.sport), .int .u32 (((lookL T114.m e68.flow).getD zeroE).flow.dst), .int .i64 (((lookL T114.m e68.flow).getD zeroE).flow.dport), .int .u32 (((lookL T114.m e68.flow).getD zeroE).dip), .int .i64 (((lookL T114.m e68.flow).getD zeroE).epoch), .bool (((lookL T114.m e68.flow).getD zeroE).trusted), .bool (((lookL T114.m e68.flow).getD zeroE).closing), .int .i64 (((lookL T114.m e68.flow).getD zeroE).last)], .bool ((lookL T114.m e68.flow).isSome)])] (fun _ => by kernel_rfl) ?_
                    refine WL.newM hC171 (fun b => .pointer (some ⟨b, 0, none⟩)) (.cells #[.int .i64 0, .int .u32 0, .int .i64 0, .int .u32 0, .int .i64 0, .int .u32 0, .int .i64 0, .bool false, .bool false, .int .i64 0] 34) 16 (fun _ => by kernel_rfl) (fun g173 w174 hb177 hF175 hC176 => ?_)
                    have hf178 := tbAt_fr hf172 hF175 (by simp)
                    refine WL.storeM (c' := #[.int .i64 (((lookL T114.m e68.flow).getD zeroE).flow.proto), .int .u32 (((lookL T114.m e68.flow).getD zeroE).flow.src), .int .i64 (((lookL T114.m e68.flow).getD zeroE).flow.sport), .int .u32 (((lookL T114.m e68.flow).getD zeroE).flow.dst), .int .i64 (((lookL T114.m e68.flow).getD zeroE).flow.dport), .int .u32 (((lookL T114.m e68.flow).getD zeroE).dip), .int .i64 (((lookL T114.m e68.flow).getD zeroE).epoch), .bool (((lookL T114.m e68.flow).getD zeroE).trusted), .bool (((lookL T114.m e68.flow).getD zeroE).closing), .int .i64 (((lookL T114.m e68.flow).getD zeroE).last)]) hC176 3 34 g173 0 (.agg #[.int .i64 (((lookL T114.m e68.flow).getD zeroE).flow.proto), .int .u32 (((lookL T114.m e68.flow).getD zeroE).flow.src), .int .i64 (((lookL T114.m e68.flow).getD zeroE).flow.sport), .int .u32 (((lookL T114.m e68.flow).getD zeroE).flow.dst), .int .i64 (((lookL T114.m e68.flow).getD zeroE).flow.dport), .int .u32 (((lookL T114.m e68.flow).getD zeroE).dip), .int .i64 (((lookL T114.m e68.flow).getD zeroE).epoch), .bool (((lookL T114.m e68.flow).getD zeroE).trusted), .bool (((lookL T114.m e68.flow).getD zeroE).closing), .int .i64 (((lookL T114.m e68.flow).getD zeroE).last)]) (by kernel_rfl) rfl (by kernel_rfl) (fun w179 hF181 hC182 => ?_)
                    have hf183 := tbAt_fr hf178 hF181 (hC176.apartM 0 3 rfl rfl)
                    refine WL.runs 1 [(17, .bool ((lookL T114.m e68.flow).isSome))] (fun _ => by kernel_rfl) ?_
                    refine WL.done rfl ?_
                    refine QX.then_normal (hK168 _ _ ?_)
                    refine WC.seq (fun K184 hK185 => ?_)
                    refine WC.region ?_
                    refine WL.runs 1 [(108, errV 47 er117)] (fun _ => by kernel_rfl) ?_
                    have hr186 : ∀ w_, Sem.run Try.prog (do eqGuard .eql 26 (Operand.tmp 108) (Operand.const (.nilIface)) (errV 47 er117) (.nilIface); binOp .eql 26 (errV 47 er117) (.nilIface)) w_ = .ok (.bool (decide (er117 = 0))) w_ := fun w_ => (err_eql _ er117 (decide (er117 = 0)) (by rfl) _)
                    refine WL.sem (do eqGuard .eql 26 (Operand.tmp 108) (Operand.const (.nilIface)) (errV 47 er117) (.nilIface); binOp .eql 26 (errV 47 er117) (.nilIface)) 109 (.bool (decide (er117 = 0))) (by kernel_rfl) (hr186 _) ?_
                    refine WL.runs 1 [(110, .bool (decide (er117 = 0)))] (fun _ => by kernel_rfl) ?_
                    refine WL.test_at 110 (decide (er117 = 0)) rfl (fun t187b => ?_) (fun t187b => ?_)
                    · -- (decide (er117 = 0)) = true: true
                      refine WL.runs 3 [(113, .bool (!((lookL T114.m e68.flow).isSome))), (112, .bool (!((lookL T114.m e68.flow).isSome))), (111, .bool ((lookL T114.m e68.flow).isSome))] (fun _ => by kernel_rfl) ?_
                      refine WL.know 113 (.bool (!((lookL T114.m e68.flow).isSome))) (.bool false) rfl (congrArg Value.bool (by rw [(put_got hrel118 (by simpa using t187b)).1]; rfl)) ?_
                      refine WL.runs 1 [(114, .pointer (some ⟨g173, 5, none⟩))] (fun _ => by kernel_rfl) ?_
                      refine WL.load 30 (.pointer (some ⟨g173, 5, none⟩)) (.int .u32 (((lookL T114.m e68.flow).getD zeroE).dip)) 115 (by kernel_rfl) (run_ld (hC182.get 3 rfl) rfl) ?_
                      refine WL.runs 1 [(116, .pointer (some ⟨g74, 7, none⟩))] (fun _ => by kernel_rfl) ?_
                      refine WL.load 30 (.pointer (some ⟨g74, 7, none⟩)) (.int .u32 e68.dip) 117 (by kernel_rfl) (run_ld (hC182.get 0 rfl) rfl) ?_
                      refine WL.runs 3 [(120, .bool ((((lookL T114.m e68.flow).getD zeroE).dip) != e68.dip)), (119, .bool ((((lookL T114.m e68.flow).getD zeroE).dip) != e68.dip)), (118, .bool ((((lookL T114.m e68.flow).getD zeroE).dip) != e68.dip))] (fun _ => by kernel_rfl) ?_
                      refine WL.know 120 (.bool ((((lookL T114.m e68.flow).getD zeroE).dip) != e68.dip)) (.bool false) rfl (congrArg Value.bool (by rw [(put_got hrel118 (by simpa using t187b)).2.1]; simp)) ?_
                      refine WL.runs 1 [(121, .pointer (some ⟨g173, 6, none⟩))] (fun _ => by kernel_rfl) ?_
                      refine WL.load 3 (.pointer (some ⟨g173, 6, none⟩)) (.int .i64 (((lookL T114.m e68.flow).getD zeroE).epoch)) 122 (by kernel_rfl) (run_ld (hC182.get 3 rfl) rfl) ?_
                      refine WL.runs 1 [(123, .pointer (some ⟨g74, 8, none⟩))] (fun _ => by kernel_rfl) ?_
                      refine WL.load 3 (.pointer (some ⟨g74, 8, none⟩)) (.int .i64 e68.ep) 124 (by kernel_rfl) (run_ld (hC182.get 0 rfl) rfl) ?_
                      refine WL.runs 3 [(127, .bool ((((lookL T114.m e68.flow).getD zeroE).epoch) != e68.ep)), (126, .bool ((((lookL T114.m e68.flow).getD zeroE).epoch) != e68.ep)), (125, .bool ((((lookL T114.m e68.flow).getD zeroE).epoch) != e68.ep))] (fun _ => by kernel_rfl) ?_
                      refine WL.know 127 (.bool ((((lookL T114.m e68.flow).getD zeroE).epoch) != e68.ep)) (.bool false) rfl (congrArg Value.bool (by rw [(put_got hrel118 (by simpa using t187b)).2.2.1]; simp)) ?_
                      refine WL.runs 2 [(129, .bool ((lookL T5.m e68.flow).isSome)), (128, .bool ((lookL T5.m e68.flow).isSome))] (fun _ => by kernel_rfl) ?_
                      refine WL.test_at 129 ((lookL T5.m e68.flow).isSome) rfl (fun t188b => ?_) (fun t188b => ?_)
                      · -- ((lookL T5.m e68.flow).isSome) = true: true
                        refine WL.runs 1 [(130, .pointer (some ⟨g173, 7, none⟩))] (fun _ => by kernel_rfl) ?_
                        refine WL.load 4 (.pointer (some ⟨g173, 7, none⟩)) (.bool (((lookL T114.m e68.flow).getD zeroE).trusted)) 131 (by kernel_rfl) (run_ld (hC182.get 3 rfl) rfl) ?_
                        refine WL.runs 1 [(132, .pointer (some ⟨g91, 7, none⟩))] (fun _ => by kernel_rfl) ?_
                        refine WL.load 4 (.pointer (some ⟨g91, 7, none⟩)) (.bool (((lookL T5.m e68.flow).getD zeroE).trusted)) 133 (by kernel_rfl) (run_ld (hC182.get 1 rfl) rfl) ?_
                        refine WL.runs 4 [(137, .bool ((((lookL T114.m e68.flow).getD zeroE).trusted) != (((lookL T5.m e68.flow).getD zeroE).trusted))), (136, .bool ((((lookL T114.m e68.flow).getD zeroE).trusted) != (((lookL T5.m e68.flow).getD zeroE).trusted))), (135, .bool ((((lookL T114.m e68.flow).getD zeroE).trusted) != (((lookL T5.m e68.flow).getD zeroE).trusted))), (134, .bool ((((lookL T114.m e68.flow).getD zeroE).trusted) != (((lookL T5.m e68.flow).getD zeroE).trusted)))] (fun _ => by kernel_rfl) ?_
                        refine WL.know 137 (.bool ((((lookL T114.m e68.flow).getD zeroE).trusted) != (((lookL T5.m e68.flow).getD zeroE).trusted))) (.bool false) rfl (congrArg Value.bool (by rw [(put_got hrel118 (by simpa using t187b)).2.2.2]; simp)) ?_
                        refine WL.runs 3 [(140, .bool (!((lookL T5.m e68.flow).isSome))), (139, .bool (!((lookL T5.m e68.flow).isSome))), (138, .bool ((lookL T5.m e68.flow).isSome))] (fun _ => by kernel_rfl) ?_
                        refine WL.know 140 (.bool (!((lookL T5.m e68.flow).isSome))) (.bool false) rfl (congrArg Value.bool (by rw [t188b]; rfl)) ?_
                        refine WL.runs 5 [(145, .bool false), (144, .bool false), (143, .bool false), (142, undef), (141, undef)] (fun _ => by kernel_rfl) ?_
                        refine WL.done rfl ?_
                        refine QX.then_normal (hK185 _ _ ?_)
                        refine WC.cond_false rfl ?_
                        refine WC.skip ?_
                        refine QX.block_normal ?_
                        refine QX.then_normal ?_
                        have hC189 := hC182.pickM [0, 1] [0] (by decide) rfl rfl
                        exact fun a_ ha_ => hK103 _ _ ⟨T114, rfl, hC189, hf183, hok123, hms124⟩ a_ (ha_.weaken (sub_of ⟨rfl, rfl, rfl, rfl, rfl, rfl, rfl, trivial⟩))
                      · -- ((lookL T5.m e68.flow).isSome) = true: false
                        refine WL.runs 11 [(140, .bool (!((lookL T5.m e68.flow).isSome))), (139, .bool (!((lookL T5.m e68.flow).isSome))), (138, .bool ((lookL T5.m e68.flow).isSome)), (137, .bool false), (136, .bool false), (135, .bool false), (134, undef), (133, undef), (132, undef), (131, undef), (130, undef)] (fun _ => by kernel_rfl) ?_
                        refine WL.know 140 (.bool (!((lookL T5.m e68.flow).isSome))) (.bool true) rfl (congrArg Value.bool (by rw [t188b]; rfl)) ?_
                        refine WL.runs 1 [(141, .pointer (some ⟨g173, 7, none⟩))] (fun _ => by kernel_rfl) ?_
                        refine WL.load 4 (.pointer (some ⟨g173, 7, none⟩)) (.bool (((lookL T114.m e68.flow).getD zeroE).trusted)) 142 (by kernel_rfl) (run_ld (hC182.get 3 rfl) rfl) ?_
                        refine WL.runs 3 [(145, .bool (((lookL T114.m e68.flow).getD zeroE).trusted)), (144, .bool (((lookL T114.m e68.flow).getD zeroE).trusted)), (143, .bool (((lookL T114.m e68.flow).getD zeroE).trusted))] (fun _ => by kernel_rfl) ?_
                        refine WL.done rfl ?_
                        refine QX.then_normal (hK185 _ _ ?_)
                        refine WC.know 145 (.bool (((lookL T114.m e68.flow).getD zeroE).trusted)) (.bool false) rfl (congrArg Value.bool (by rw [(put_got hrel118 (by simpa using t187b)).2.2.2, show lookL T5.m e68.flow = none from by simpa using t188b]; rfl)) ?_
                        refine WC.cond_false rfl ?_
                        refine WC.skip ?_
                        refine QX.block_normal ?_
                        refine QX.then_normal ?_
                        have hC190 := hC182.pickM [0, 1] [0] (by decide) rfl rfl
                        exact fun a_ ha_ => hK103 _ _ ⟨T114, rfl, hC190, hf183, hok123, hms124⟩ a_ (ha_.weaken (sub_of ⟨rfl, rfl, rfl, rfl, rfl, rfl, rfl, trivial⟩))
                    · -- (decide (er117 = 0)) = true: false
                      refine WL.runs 35 [(145, .bool false), (144, undef), (143, undef), (142, undef), (141, undef), (140, undef), (139, undef), (138, undef), (137, undef), (136, undef), (135, undef), (134, undef), (133, undef), (132, undef), (131, undef), (130, undef), (129, undef), (128, undef), (127, undef), (126, undef), (125, undef), (124, undef), (123, undef), (122, undef), (121, undef), (120, undef), (119, undef), (118, undef), (117, undef), (116, undef), (115, undef), (114, undef), (113, undef), (112, undef), (111, undef)] (fun _ => by kernel_rfl) ?_
                      refine WL.done rfl ?_
                      refine QX.then_normal (hK185 _ _ ?_)
                      refine WC.cond_false rfl ?_
                      refine WC.skip ?_
                      refine QX.block_normal ?_
                      refine QX.then_normal ?_
                      have hC191 := hC182.pickM [0, 1] [0] (by decide) rfl rfl
                      exact fun a_ ha_ => hK103 _ _ ⟨T114, rfl, hC191, hf183, hok123, hms124⟩ a_ (ha_.weaken (sub_of ⟨rfl, rfl, rfl, rfl, rfl, rfl, rfl, trivial⟩))
                · -- e68.kind = 0: false
                  have t111 : ¬ (e68.kind = 0) := by simpa using t111b
                  refine WC.cond_false rfl ?_
                  refine WC.seq (fun K192 hK193 => ?_)
                  refine WC.region ?_
                  refine WL.runs 2 [(146, .bool (e68.kind == 1)), (147, .bool (e68.kind == 1))] (fun _ => by kernel_rfl) ?_
                  refine WL.done rfl ?_
                  refine QX.then_normal (hK193 _ _ ?_)
                  refine WC.test_at 146 (e68.kind == 1) rfl (fun t194b => ?_) (fun t194b => ?_)
                  · -- e68.kind = 1: true
                    have t194 : e68.kind = 1 := by simpa using t194b
                    refine WC.cond_true rfl ?_
                    refine WC.seq (fun K195 hK196 => ?_)
                    refine WC.region ?_
                    refine WL.runs 2 [(149, .pointer (some ⟨g74, 1, none⟩)), (148, .pointer (some ⟨p35, 0, none⟩))] (fun _ => by kernel_rfl) ?_
                    refine WL.load 32 (.pointer (some ⟨g74, 1, none⟩)) (.agg #[.int .i64 e68.flow.proto, .int .u32 e68.flow.src, .int .i64 e68.flow.sport, .int .u32 e68.flow.dst, .int .i64 e68.flow.dport]) 150 (by kernel_rfl) (run_ld (hC100.get 0 rfl) rfl) ?_
                    refine WL.runs 1 [(151, .pointer (some ⟨g74, 9, none⟩))] (fun _ => by kernel_rfl) ?_
                    refine WL.load 3 (.pointer (some ⟨g74, 9, none⟩)) (.int .i64 e68.flags) 152 (by kernel_rfl) (run_ld (hC100.get 0 rfl) rfl) ?_
                    refine WL.runs 1 [(153, .pointer (some ⟨g74, 10, none⟩))] (fun _ => by kernel_rfl) ?_
                    refine WL.load 3 (.pointer (some ⟨g74, 10, none⟩)) (.int .i64 e68.now) 154 (by kernel_rfl) (run_ld (hC100.get 0 rfl) rfl) ?_
                    refine WL.call rfl rfl rfl rfl rfl (by kernel_rfl) (Touch_ct p35 b36 T5 e68.flow e68.flags e68.now w97 hf101 hok5.bth hok5.buh) ?_
                    rintro _ w198 ⟨rfl, hF197, hT200⟩
                    have hok201 := hok5.touch e68.flow e68.flags e68.now
                    have hms202 := And.intro ((touch_ms T5 e68.flow e68.flags e68.now).1.trans hms5.1) ((touch_ms T5 e68.flow e68.flags e68.now).2.trans hms5.2)
                    have hC199 := hC100.callF 0 rfl hF197 (fun _ hx_ => .inl hx_) (tbAt_lt hT200)
                    refine ⟨_, rfl, ?_⟩
                    refine WL.done rfl ?_
                    refine QX.then_normal (hK196 _ _ ?_)
                    refine WC.seq (fun K203 hK204 => ?_)
                    refine WC.region ?_
                    refine WL.runs 2 [(158, .pointer (some ⟨g74, 1, none⟩)), (157, .pointer (some ⟨p35, 0, none⟩))] (fun _ => by kernel_rfl) ?_
                    refine WL.load 32 (.pointer (some ⟨g74, 1, none⟩)) (.agg #[.int .i64 e68.flow.proto, .int .u32 e68.flow.src, .int .i64 e68.flow.sport, .int .u32 e68.flow.dst, .int .i64 e68.flow.dport]) 159 (by kernel_rfl) (run_ld (hC199.get 0 rfl) rfl) ?_
                    refine WL.call rfl rfl rfl rfl rfl (by kernel_rfl) (Get_ct p35 b36 ((touchT T5 e68.flow e68.flags e68.now).1) e68.flow w198 hT200) ?_
                    rintro _ w206 ⟨rfl, hF205⟩
                    refine ⟨_, rfl, ?_⟩
                    have hC207 := hC199.call hF205
                    have hf208 := tbAt_fr hT200 hF205 (by simp)
                    refine WL.runs 3 [(162, .bool ((lookL ((touchT T5 e68.flow e68.flags e68.now).1).m e68.flow).isSome)), (161, .agg #[.int .i64 (((lookL ((touchT T5 e68.flow e68.flags e68.now).1).m e68.flow).getD zeroE).flow.proto), .int .u32 (((lookL ((touchT T5 e68.flow e68.flags e68.now).1).m e68.flow).getD zeroE).flow.src), .int .i64 (((lookL ((touchT T5 e68.flow e68.flags e68.now).1).m e68.flow).getD zeroE).flow.sport), .int .u32 (((lookL ((touchT T5 e68.flow e68.flags e68.now).1).m e68.flow).getD zeroE).flow.dst), .int .i64 (((lookL ((touchT T5 e68.flow e68.flags e68.now).1).m e68.flow).getD zeroE).flow.dport), .int .u32 (((lookL ((touchT T5 e68.flow e68.flags e68.now).1).m e68.flow).getD zeroE).dip), .int .i64 (((lookL ((touchT T5 e68.flow e68.flags e68.now).1).m e68.flow).getD zeroE).epoch), .bool (((lookL ((touchT T5 e68.flow e68.flags e68.now).1).m e68.flow).getD zeroE).trusted), .bool (((lookL ((touchT T5 e68.flow e68.flags e68.now).1).m e68.flow).getD zeroE).closing), .int .i64 (((lookL ((touchT T5 e68.flow e68.flags e68.now).1).m e68.flow).getD zeroE).last)]), (156, .tuple #[.agg #[.int .i64 (((lookL ((touchT T5 e68.flow e68.flags e68.now).1).m e68.flow).getD zeroE).flow.proto), .int .u32 (((lookL ((touchT T5 e68.flow e68.flags e68.now).1).m e68.flow).getD zeroE).flow.src), .int .i64 (((lookL ((touchT T5 e68.flow e68.flags e68.now).1).m e68.flow).getD zeroE).flow.sport), .int .u32 (((lookL ((touchT T5 e68.flow e68.flags e68.now).1).m e68.flow).getD zeroE).flow.dst), .int .i64 (((lookL ((touchT T5 e68.flow e68.flags e68.now).1).m e68.flow).getD zeroE).flow.dport), .int .u32 (((lookL ((touchT T5 e68.flow e68.flags e68.now).1).m e68.flow).getD zeroE).dip), .int .i64 (((lookL ((touchT T5 e68.flow e68.flags e68.now).1).m e68.flow).getD zeroE).epoch), .bool (((lookL ((touchT T5 e68.flow e68.flags e68.now).1).m e68.flow).getD zeroE).trusted), .bool (((lookL ((touchT T5 e68.flow e68.flags e68.now).1).m e68.flow).getD zeroE).closing), .int .i64 (((lookL ((touchT T5 e68.flow e68.flags e68.now).1).m e68.flow).getD zeroE).last)], .bool ((lookL ((touchT T5 e68.flow e68.flags e68.now).1).m e68.flow).isSome)])] (fun _ => by kernel_rfl) ?_
                    refine WL.newM hC207 (fun b => .pointer (some ⟨b, 0, none⟩)) (.cells #[.int .i64 0, .int .u32 0, .int .i64 0, .int .u32 0, .int .i64 0, .int .u32 0, .int .i64 0, .bool false, .bool false, .int .i64 0] 34) 18 (fun _ => by kernel_rfl) (fun g209 w210 hb213 hF211 hC212 => ?_)
                    have hf214 := tbAt_fr hf208 hF211 (by simp)
                    refine WL.storeM (c' := #[.int .i64 (((lookL ((touchT T5 e68.flow e68.flags e68.now).1).m e68.flow).getD zeroE).flow.proto), .int .u32 (((lookL ((touchT T5 e68.flow e68.flags e68.now).1).m e68.flow).getD zeroE).flow.src), .int .i64 (((lookL ((touchT T5 e68.flow e68.flags e68.now).1).m e68.flow).getD zeroE).flow.sport), .int .u32 (((lookL ((touchT T5 e68.flow e68.flags e68.now).1).m e68.flow).getD zeroE).flow.dst), .int .i64 (((lookL ((touchT T5 e68.flow e68.flags e68.now).1).m e68.flow).getD zeroE).flow.dport), .int .u32 (((lookL ((touchT T5 e68.flow e68.flags e68.now).1).m e68.flow).getD zeroE).dip), .int .i64 (((lookL ((touchT T5 e68.flow e68.flags e68.now).1).m e68.flow).getD zeroE).epoch), .bool (((lookL ((touchT T5 e68.flow e68.flags e68.now).1).m e68.flow).getD zeroE).trusted), .bool (((lookL ((touchT T5 e68.flow e68.flags e68.now).1).m e68.flow).getD zeroE).closing), .int .i64 (((lookL ((touchT T5 e68.flow e68.flags e68.now).1).m e68.flow).getD zeroE).last)]) hC212 2 34 g209 0 (.agg #[.int .i64 (((lookL ((touchT T5 e68.flow e68.flags e68.now).1).m e68.flow).getD zeroE).flow.proto), .int .u32 (((lookL ((touchT T5 e68.flow e68.flags e68.now).1).m e68.flow).getD zeroE).flow.src), .int .i64 (((lookL ((touchT T5 e68.flow e68.flags e68.now).1).m e68.flow).getD zeroE).flow.sport), .int .u32 (((lookL ((touchT T5 e68.flow e68.flags e68.now).1).m e68.flow).getD zeroE).flow.dst), .int .i64 (((lookL ((touchT T5 e68.flow e68.flags e68.now).1).m e68.flow).getD zeroE).flow.dport), .int .u32 (((lookL ((touchT T5 e68.flow e68.flags e68.now).1).m e68.flow).getD zeroE).dip), .int .i64 (((lookL ((touchT T5 e68.flow e68.flags e68.now).1).m e68.flow).getD zeroE).epoch), .bool (((lookL ((touchT T5 e68.flow e68.flags e68.now).1).m e68.flow).getD zeroE).trusted), .bool (((lookL ((touchT T5 e68.flow e68.flags e68.now).1).m e68.flow).getD zeroE).closing), .int .i64 (((lookL ((touchT T5 e68.flow e68.flags e68.now).1).m e68.flow).getD zeroE).last)]) (by kernel_rfl) rfl (by kernel_rfl) (fun w215 hF217 hC218 => ?_)
                    have hf219 := tbAt_fr hf214 hF217 (hC212.apartM 0 2 rfl rfl)
                    refine WL.runs 1 [(19, .bool ((lookL ((touchT T5 e68.flow e68.flags e68.now).1).m e68.flow).isSome))] (fun _ => by kernel_rfl) ?_
                    refine WL.done rfl ?_
                    refine QX.then_normal (hK204 _ _ ?_)
                    refine WC.seq (fun K220 hK221 => ?_)
                    refine WC.region ?_
                    refine WL.runs 4 [(166, .bool (((lookL ((touchT T5 e68.flow e68.flags e68.now).1).m e68.flow).isSome) != ((lookL T5.m e68.flow).isSome))), (165, .bool (((lookL ((touchT T5 e68.flow e68.flags e68.now).1).m e68.flow).isSome) != ((lookL T5.m e68.flow).isSome))), (164, .bool ((lookL T5.m e68.flow).isSome)), (163, .bool ((lookL ((touchT T5 e68.flow e68.flags e68.now).1).m e68.flow).isSome))] (fun _ => by kernel_rfl) ?_
                    refine WL.know 166 (.bool (((lookL ((touchT T5 e68.flow e68.flags e68.now).1).m e68.flow).isSome) != ((lookL T5.m e68.flow).isSome))) (.bool false) rfl (congrArg Value.bool (by rw [(touch_got T5 e68.flow e68.flags e68.now).1]; simp)) ?_
                    refine WL.runs 1 [(167, .pointer (some ⟨g91, 7, none⟩))] (fun _ => by kernel_rfl) ?_
                    refine WL.load 4 (.pointer (some ⟨g91, 7, none⟩)) (.bool (((lookL T5.m e68.flow).getD zeroE).trusted)) 168 (by kernel_rfl) (run_ld (hC218.get 1 rfl) rfl) ?_
                    refine WL.runs 1 [(169, .bool (((lookL T5.m e68.flow).getD zeroE).trusted))] (fun _ => by kernel_rfl) ?_
                    refine WL.test_at 169 (((lookL T5.m e68.flow).getD zeroE).trusted) rfl (fun t222b => ?_) (fun t222b => ?_)
                    · -- (((lookL T5.m e68.flow).getD zeroE).trusted) = true: true
                      refine WL.runs 1 [(170, .pointer (some ⟨g209, 7, none⟩))] (fun _ => by kernel_rfl) ?_
                      refine WL.load 4 (.pointer (some ⟨g209, 7, none⟩)) (.bool (((lookL ((touchT T5 e68.flow e68.flags e68.now).1).m e68.flow).getD zeroE).trusted)) 171 (by kernel_rfl) (run_ld (hC218.get 2 rfl) rfl) ?_
                      refine WL.runs 4 [(175, .bool (!(((lookL ((touchT T5 e68.flow e68.flags e68.now).1).m e68.flow).getD zeroE).trusted))), (174, .bool (!(((lookL ((touchT T5 e68.flow e68.flags e68.now).1).m e68.flow).getD zeroE).trusted))), (173, .bool (!(((lookL ((touchT T5 e68.flow e68.flags e68.now).1).m e68.flow).getD zeroE).trusted))), (172, .bool (!(((lookL ((touchT T5 e68.flow e68.flags e68.now).1).m e68.flow).getD zeroE).trusted)))] (fun _ => by kernel_rfl) ?_
                      refine WL.know 175 (.bool (!(((lookL ((touchT T5 e68.flow e68.flags e68.now).1).m e68.flow).getD zeroE).trusted))) (.bool false) rfl (congrArg Value.bool (by rw [(touch_got T5 e68.flow e68.flags e68.now).2.1 t222b]; rfl)) ?_
                      refine WL.runs 1 [(176, .pointer (some ⟨g209, 5, none⟩))] (fun _ => by kernel_rfl) ?_
                      refine WL.load 30 (.pointer (some ⟨g209, 5, none⟩)) (.int .u32 (((lookL ((touchT T5 e68.flow e68.flags e68.now).1).m e68.flow).getD zeroE).dip)) 177 (by kernel_rfl) (run_ld (hC218.get 2 rfl) rfl) ?_
                      refine WL.runs 1 [(178, .pointer (some ⟨g91, 5, none⟩))] (fun _ => by kernel_rfl) ?_
                      refine WL.load 30 (.pointer (some ⟨g91, 5, none⟩)) (.int .u32 (((lookL T5.m e68.flow).getD zeroE).dip)) 179 (by kernel_rfl) (run_ld (hC218.get 1 rfl) rfl) ?_
                      refine WL.runs 3 [(182, .bool ((((lookL ((touchT T5 e68.flow e68.flags e68.now).1).m e68.flow).getD zeroE).dip) != (((lookL T5.m e68.flow).getD zeroE).dip))), (181, .bool ((((lookL ((touchT T5 e68.flow e68.flags e68.now).1).m e68.flow).getD zeroE).dip) != (((lookL T5.m e68.flow).getD zeroE).dip))), (180, .bool ((((lookL ((touchT T5 e68.flow e68.flags e68.now).1).m e68.flow).getD zeroE).dip) != (((lookL T5.m e68.flow).getD zeroE).dip)))] (fun _ => by kernel_rfl) ?_
                      refine WL.know 182 (.bool ((((lookL ((touchT T5 e68.flow e68.flags e68.now).1).m e68.flow).getD zeroE).dip) != (((lookL T5.m e68.flow).getD zeroE).dip))) (.bool false) rfl (congrArg Value.bool (by rw [(touch_got T5 e68.flow e68.flags e68.now).2.2.1]; simp)) ?_
                      refine WL.runs 1 [(183, .pointer (some ⟨g209, 6, none⟩))] (fun _ => by kernel_rfl) ?_
                      refine WL.load 3 (.pointer (some ⟨g209, 6, none⟩)) (.int .i64 (((lookL ((touchT T5 e68.flow e68.flags e68.now).1).m e68.flow).getD zeroE).epoch)) 184 (by kernel_rfl) (run_ld (hC218.get 2 rfl) rfl) ?_
                      refine WL.runs 1 [(185, .pointer (some ⟨g91, 6, none⟩))] (fun _ => by kernel_rfl) ?_
                      refine WL.load 3 (.pointer (some ⟨g91, 6, none⟩)) (.int .i64 (((lookL T5.m e68.flow).getD zeroE).epoch)) 186 (by kernel_rfl) (run_ld (hC218.get 1 rfl) rfl) ?_
                      refine WL.runs 2 [(188, .bool ((((lookL ((touchT T5 e68.flow e68.flags e68.now).1).m e68.flow).getD zeroE).epoch) != (((lookL T5.m e68.flow).getD zeroE).epoch))), (187, .bool ((((lookL ((touchT T5 e68.flow e68.flags e68.now).1).m e68.flow).getD zeroE).epoch) != (((lookL T5.m e68.flow).getD zeroE).epoch)))] (fun _ => by kernel_rfl) ?_
                      refine WL.done rfl ?_
                      refine QX.then_normal (hK221 _ _ ?_)
                      refine WC.know 188 (.bool ((((lookL ((touchT T5 e68.flow e68.flags e68.now).1).m e68.flow).getD zeroE).epoch) != (((lookL T5.m e68.flow).getD zeroE).epoch))) (.bool false) rfl (congrArg Value.bool (by rw [(touch_got T5 e68.flow e68.flags e68.now).2.2.2]; simp)) ?_
                      refine WC.cond_false rfl ?_
                      refine WC.skip ?_
                      refine QX.block_normal ?_
                      refine QX.then_normal ?_
                      have hC223 := hC218.pickM [0, 1] [0] (by decide) rfl rfl
                      exact fun a_ ha_ => hK103 _ _ ⟨(touchT T5 e68.flow e68.flags e68.now).1, rfl, hC223, hf219, hok201, hms202⟩ a_ (ha_.weaken (sub_of ⟨rfl, rfl, rfl, rfl, rfl, rfl, rfl, trivial⟩))
                    · -- (((lookL T5.m e68.flow).getD zeroE).trusted) = true: false
                      refine WL.runs 7 [(176, .pointer (some ⟨g209, 5, none⟩)), (175, .bool false), (174, .bool false), (173, .bool false), (172, undef), (171, undef), (170, undef)] (fun _ => by kernel_rfl) ?_
                      refine WL.load 30 (.pointer (some ⟨g209, 5, none⟩)) (.int .u32 (((lookL ((touchT T5 e68.flow e68.flags e68.now).1).m e68.flow).getD zeroE).dip)) 177 (by kernel_rfl) (run_ld (hC218.get 2 rfl) rfl) ?_
                      refine WL.runs 1 [(178, .pointer (some ⟨g91, 5, none⟩))] (fun _ => by kernel_rfl) ?_
                      refine WL.load 30 (.pointer (some ⟨g91, 5, none⟩)) (.int .u32 (((lookL T5.m e68.flow).getD zeroE).dip)) 179 (by kernel_rfl) (run_ld (hC218.get 1 rfl) rfl) ?_
                      refine WL.runs 3 [(182, .bool ((((lookL ((touchT T5 e68.flow e68.flags e68.now).1).m e68.flow).getD zeroE).dip) != (((lookL T5.m e68.flow).getD zeroE).dip))), (181, .bool ((((lookL ((touchT T5 e68.flow e68.flags e68.now).1).m e68.flow).getD zeroE).dip) != (((lookL T5.m e68.flow).getD zeroE).dip))), (180, .bool ((((lookL ((touchT T5 e68.flow e68.flags e68.now).1).m e68.flow).getD zeroE).dip) != (((lookL T5.m e68.flow).getD zeroE).dip)))] (fun _ => by kernel_rfl) ?_
                      refine WL.know 182 (.bool ((((lookL ((touchT T5 e68.flow e68.flags e68.now).1).m e68.flow).getD zeroE).dip) != (((lookL T5.m e68.flow).getD zeroE).dip))) (.bool false) rfl (congrArg Value.bool (by rw [(touch_got T5 e68.flow e68.flags e68.now).2.2.1]; simp)) ?_
                      refine WL.runs 1 [(183, .pointer (some ⟨g209, 6, none⟩))] (fun _ => by kernel_rfl) ?_
                      refine WL.load 3 (.pointer (some ⟨g209, 6, none⟩)) (.int .i64 (((lookL ((touchT T5 e68.flow e68.flags e68.now).1).m e68.flow).getD zeroE).epoch)) 184 (by kernel_rfl) (run_ld (hC218.get 2 rfl) rfl) ?_
                      refine WL.runs 1 [(185, .pointer (some ⟨g91, 6, none⟩))] (fun _ => by kernel_rfl) ?_
                      refine WL.load 3 (.pointer (some ⟨g91, 6, none⟩)) (.int .i64 (((lookL T5.m e68.flow).getD zeroE).epoch)) 186 (by kernel_rfl) (run_ld (hC218.get 1 rfl) rfl) ?_
                      refine WL.runs 2 [(188, .bool ((((lookL ((touchT T5 e68.flow e68.flags e68.now).1).m e68.flow).getD zeroE).epoch) != (((lookL T5.m e68.flow).getD zeroE).epoch))), (187, .bool ((((lookL ((touchT T5 e68.flow e68.flags e68.now).1).m e68.flow).getD zeroE).epoch) != (((lookL T5.m e68.flow).getD zeroE).epoch)))] (fun _ => by kernel_rfl) ?_
                      refine WL.done rfl ?_
                      refine QX.then_normal (hK221 _ _ ?_)
                      refine WC.know 188 (.bool ((((lookL ((touchT T5 e68.flow e68.flags e68.now).1).m e68.flow).getD zeroE).epoch) != (((lookL T5.m e68.flow).getD zeroE).epoch))) (.bool false) rfl (congrArg Value.bool (by rw [(touch_got T5 e68.flow e68.flags e68.now).2.2.2]; simp)) ?_
                      refine WC.cond_false rfl ?_
                      refine WC.skip ?_
                      refine QX.block_normal ?_
                      refine QX.then_normal ?_
                      have hC224 := hC218.pickM [0, 1] [0] (by decide) rfl rfl
                      exact fun a_ ha_ => hK103 _ _ ⟨(touchT T5 e68.flow e68.flags e68.now).1, rfl, hC224, hf219, hok201, hms202⟩ a_ (ha_.weaken (sub_of ⟨rfl, rfl, rfl, rfl, rfl, rfl, rfl, trivial⟩))
                  · -- e68.kind = 1: false
                    have t194 : ¬ (e68.kind = 1) := by simpa using t194b
                    refine WC.cond_false rfl ?_
                    refine WC.region ?_
                    refine WL.runs 2 [(70, .pointer (some ⟨g74, 10, none⟩)), (69, .pointer (some ⟨p35, 0, none⟩))] (fun _ => by kernel_rfl) ?_
                    refine WL.load 3 (.pointer (some ⟨g74, 10, none⟩)) (.int .i64 e68.now) 71 (by kernel_rfl) (run_ld (hC100.get 0 rfl) rfl) ?_
                    refine WL.call rfl rfl rfl rfl rfl (by kernel_rfl) (Expire_ct p35 b36 T5 e68.now w97 hf101 hok5) ?_
                    rintro _ w227 ⟨v_, rfl, hF226, hT229, ho225⟩
                    have hok230 := hok5.outX e68.now
                    have hms231 := And.intro ((outX_ms T5 e68.now).1.trans hms5.1) ((outX_ms T5 e68.now).2.trans hms5.2)
                    have hC228 := hC100.callFN 0 rfl hF226 (fun _ hx_ => .inl hx_) (tbAt_lt hT229) (own_ge ho225) (own_lt ho225) (fun x_ hx_ hg_ => Nat.not_lt.2 (own_ge ho225 x_ hg_) (hC100.ltF 0 rfl x_ hx_))
                    obtain ⟨A232, c233, rfl, hle234⟩ := own_form ho225
                    have ho235 := own_base (b' := 0) ho225 (fun _ _ => Nat.zero_le _)
                    refine ⟨_, rfl, ?_⟩
                    refine WL.done rfl ?_
                    refine QX.block_normal ?_
                    refine QX.then_normal ?_
                    have hC237 := hC228.pickM [0, 1] [0] (by decide) rfl rfl
                    exact fun a_ ha_ => hK103 _ _ ⟨(outX T5 e68.now).2, rfl, hC237, hT229, hok230, hms231⟩ a_ (ha_.weaken (sub_of ⟨rfl, rfl, rfl, rfl, rfl, rfl, rfl, trivial⟩))
              rintro E_ w105 ⟨T6, rfl, hC106, hT6, hok6, hms6⟩
              have htm6_ := hok6.tm
              have hum6_ := hok6.um
              have hbd6_ := hok6.bd
              have hln6_ := hok6.len
              obtain ⟨hm6a, hm6b⟩ := hms6
              refine WC.seq (fun K238 hK239 => ?_)
              refine WC.region ?_
              refine WL.runs 1 [(190, .pointer (some ⟨p35, 0, none⟩))] (fun _ => by kernel_rfl) ?_
              refine WL.call rfl rfl rfl rfl rfl (by kernel_rfl) (Len_ct p35 b36 T6 w105 hT6) ?_
              rintro _ w241 ⟨rfl, hF240⟩
              refine ⟨_, rfl, ?_⟩
              have hC242 := hC106.call hF240
              have hf243 := tbAt_fr hT6 hF240 (by simp)
              refine WL.runs 5 [(21, .int .i64 T6.uh), (20, .int .i64 T6.th), (193, .int .i64 T6.uh), (192, .int .i64 T6.th), (189, .tuple #[.int .i64 T6.th, .int .i64 T6.uh])] (fun _ => by kernel_rfl) ?_
              refine WL.done rfl ?_
              refine QX.then_normal (hK239 _ _ ?_)
              refine WC.seq (fun K244 hK245 => ?_)
              refine WC.region ?_
              refine WL.runs 4 [(197, .bool (decide (T6.th > tr))), (196, .bool (decide (T6.th > tr))), (195, .int .i64 tr), (194, .int .i64 T6.th)] (fun _ => by kernel_rfl) ?_
              refine WL.know 197 (.bool (decide (T6.th > tr))) (.bool false) rfl (congrArg Value.bool (by exact decide_eq_false (by omega))) ?_
              refine WL.runs 5 [(202, .bool (decide (T6.uh > un))), (201, .bool (decide (T6.uh > un))), (200, .bool (decide (T6.uh > un))), (199, .int .i64 un), (198, .int .i64 T6.uh)] (fun _ => by kernel_rfl) ?_
              refine WL.know 202 (.bool (decide (T6.uh > un))) (.bool false) rfl (congrArg Value.bool (by exact decide_eq_false (by omega))) ?_
              refine WL.runs 4 [(206, .bool (decide (T6.th < 0))), (205, .bool (decide (T6.th < 0))), (204, .bool (decide (T6.th < 0))), (203, .int .i64 T6.th)] (fun _ => by kernel_rfl) ?_
              refine WL.know 206 (.bool (decide (T6.th < 0))) (.bool false) rfl (congrArg Value.bool (by exact decide_eq_false (by omega))) ?_
              refine WL.runs 4 [(210, .bool (decide (T6.uh < 0))), (209, .bool (decide (T6.uh < 0))), (208, .bool (decide (T6.uh < 0))), (207, .int .i64 T6.uh)] (fun _ => by kernel_rfl) ?_
              refine WL.know 210 (.bool (decide (T6.uh < 0))) (.bool false) rfl (congrArg Value.bool (by exact decide_eq_false (by omega))) ?_
              refine WL.runs 1 [(211, .pointer (some ⟨p35, 0, none⟩))] (fun _ => by kernel_rfl) ?_
              refine WL.call rfl rfl rfl rfl rfl (by kernel_rfl) (All_ct p35 b36 T6 w241 hf243 hok6.flow (Nat.le_trans hok6.bd.2.2 (by decide))) ?_
              rintro _ w248 ⟨v_, rfl, hF247, ho246⟩
              have hC249 := hC242.callN hF247 (own_ge ho246) (own_lt ho246)
              obtain ⟨A250, c251, rfl, hle252⟩ := own_form ho246
              have ho254 := own_base (b' := 0) ho246 (fun _ _ => Nat.zero_le _)
              refine ⟨_, rfl, ?_⟩
              have hf255 := tbAt_fr hf243 hF247 (by simp)
              refine WL.runs 4 [(216, .int .i64 (IntKind.i64.wrap (T6.th + T6.uh))), (215, .int .i64 T6.uh), (214, .int .i64 T6.th), (213, .int .i64 ((allE T6.m).length : Int))] (fun _ => by kernel_rfl) ?_
              refine WL.recast (show (.int .i64 (IntKind.i64.wrap (T6.th + T6.uh)) : Value) = .int .i64 (T6.th + T6.uh) from by rw [wrap_in_i64 (T6.th + T6.uh) (by omega) (by omega)]) ?_
              refine WL.runs 2 [(218, .bool (((allE T6.m).length : Int) != (T6.th + T6.uh))), (217, .bool (((allE T6.m).length : Int) != (T6.th + T6.uh)))] (fun _ => by kernel_rfl) ?_
              refine WL.done rfl ?_
              refine QX.then_normal (hK245 _ _ ?_)
              refine WC.know 218 (.bool (((allE T6.m).length : Int) != (T6.th + T6.uh))) (.bool false) rfl (congrArg Value.bool (by rw [bne_eq_false_iff_eq, allE_len]; omega)) ?_
              refine WC.cond_false rfl ?_
              refine WC.skip ?_
              refine QX.block_normal ?_
              refine QX.then_normal (hK65 _ _ ?_)
              refine WC.region ?_
              refine WL.runs 1 [(219, .int .i64 (IntKind.i64.wrap ((i : Int) + 1)))] (fun _ => by kernel_rfl) ?_
              refine WL.recast (show (.int .i64 (IntKind.i64.wrap ((i : Int) + 1)) : Value) = .int .i64 ((i : Int) + 1) from by rw [wrap_in_i64 ((i : Int) + 1) (by omega) (by omega)]) ?_
              refine WL.runs 1 [(56, .int .i64 ((i : Int) + 1))] (fun _ => by kernel_rfl) ?_
              refine WL.done rfl ?_
              refine QX.then_normal ?_
              have hC257 := hC249.pick [] [0] rfl rfl
              refine fun a_ ha_ => hK54 _ _ _ ?_ ⟨i + 1, T6, rfl, rfl, hC257, hf255, by omega, hok6, (And.intro hm6a hm6b)⟩ a_ (ha_.weaken (sub_of ⟨rfl, rfl, rfl, rfl, rfl, rfl, rfl, trivial⟩))
              omega
            · -- (i : Int) < (ops.length : Int): false
              have t63 : (ops.length : Int) ≤ (i : Int) := by have q_ := of_decide_eq_false t63b; omega
              refine WC.cond_false rfl ?_
              refine WC.exit ?_
              refine QX.then_exit ?_
              refine QX.then_exit ?_
              refine QX.block_hit ?_
              refine QX.then_normal (hK50 _ _ ?_)
              refine WC.seq (fun K258 hK259 => ?_)
              refine WC.region ?_
              refine WL.runs 1 [(6, .bool true)] (fun _ => by kernel_rfl) ?_
              refine WL.done rfl ?_
              refine QX.then_normal (hK259 _ _ ?_)
              refine WC.ret ?_
              refine (hret _ _ _ rfl ?_).1
              clear hN hret hret' hK259 hK62 hK60 hK52 hK50 hK48 hK46 hK34 hK13 hK11 hK6 hK4 hK2
              exact ⟨rfl, hC58.fr⟩

theorem FlowBounds_ct (tr un : Int) (C : Option Addr) (c : Nat) (ops : List FOp) (w : World) (hops : Rd w 11 cellO C ops) (hok : ∀ o ∈ ops, fopAt w o) (hcl : ops.length ≤ 9223372036854775807) : Calls Try.prog 6 #[.agg #[.int .i64 tr, .int .i64 un, .slice C ops.length c]] w fun e w' => e = .returned (.bool true) ∧ Fr w w' [] := by
  refine enterD (n := 10) Try.func6 rfl rfl (Nat.le_of_ble_eq_true rfl) ?_
  intro Q0 hN hret hret'
  have hC := Cx.start w
  refine WC.seq (fun K1 hK2 => ?_)
  refine WC.region ?_
  refine WL.newM hC (fun b => .pointer (some ⟨b, 0, none⟩)) (.cells #[.int .i64 tr, .int .i64 un, .slice C ops.length c] 66) 1 (fun _ => by kernel_rfl) (fun g3 w4 hb7 hF5 hC6 => ?_)
  refine WL.runs 1 [(2, .bool false)] (fun _ => by kernel_rfl) ?_
  refine WL.done rfl ?_
  refine QX.then_normal (hK2 _ _ ?_)
  refine WC.seq (fun K8 hK9 => ?_)
  refine WC.region ?_
  refine WL.runs 1 [(3, .pointer (some ⟨g3, 0, none⟩))] (fun _ => by kernel_rfl) ?_
  refine WL.load 3 (.pointer (some ⟨g3, 0, none⟩)) (.int .i64 tr) 4 (by kernel_rfl) (run_ld (hC6.get 0 rfl) rfl) ?_
  refine WL.runs 1 [(5, .pointer (some ⟨g3, 1, none⟩))] (fun _ => by kernel_rfl) ?_
  refine WL.load 3 (.pointer (some ⟨g3, 1, none⟩)) (.int .i64 un) 6 (by kernel_rfl) (run_ld (hC6.get 0 rfl) rfl) ?_
  refine WL.runs 1 [(7, .pointer (some ⟨g3, 2, none⟩))] (fun _ => by kernel_rfl) ?_
  refine WL.load 46 (.pointer (some ⟨g3, 2, none⟩)) (.slice C ops.length c) 8 (by kernel_rfl) (run_ld (hC6.get 0 rfl) rfl) ?_
  refine WL.call rfl rfl rfl rfl rfl (by kernel_rfl) (quotas_ct tr un C c ops w4 (Rd.fr hops hC6.fr) (fun o_ h_ => (hok o_ h_).fr hC6.fr) hcl) ?_
  rintro _ w11 ⟨rfl, hF10⟩
  refine ⟨_, rfl, ?_⟩
  have hC12 := hC6.call hF10
  refine WL.runs 1 [(2, .bool true)] (fun _ => by kernel_rfl) ?_
  refine WL.done rfl ?_
  refine QX.then_normal (hK9 _ _ ?_)
  refine WC.ret ?_
  refine (hret _ _ _ rfl ?_).1
  clear hN hret hret' hK9 hK2
  exact ⟨rfl, hC12.fr⟩

end Go.Proofs.Ytimphmcoafapgaa
