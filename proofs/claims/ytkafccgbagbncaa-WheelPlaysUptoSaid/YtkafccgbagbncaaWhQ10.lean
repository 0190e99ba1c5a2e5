/- Contracts of functions of the program, each proved by a walk through its code; conditions stand in the statements. -/
import Derived.Test.YtkafccgbagbncaaWhL10
import Derived.Test.YtkafccgbagbncaaTwCut
namespace Go.Proofs.Ytkafccgbagbncaa
set_option linter.unusedSimpArgs false
set_option linter.unusedVariables false
set_option linter.unusedSectionVars false
open Go Go.RowKit Go.Tw
set_option linter.unusedVariables false
set_option maxRecDepth 20000
theorem RSet_n (F : List Nat) (p : Nat) (m : List (Int × Int)) (a : Int) (A : Option Addr) (n c : Nat) (ks : List Int) (w : World) (ht : rfAt w F p m) (ha0 : 0 ≤ a) (ha1 : a ≤ 1099511627776) (hnd : (m.map (·.1)).Nodup) (hml : m.length + ks.length ≤ 1099511627776) (hks : Rd w 1 (Go.Tw.encI .i64) A ks) (hn : ks.length = n) (hcc : ks.length ≤ c) (hAF : ∀ b off, A = some ⟨b, off, none⟩ → ks ≠ [] → b ∉ F) : Calls Try.prog 19 #[.pointer (some ⟨p, 0, none⟩), .int .i64 a, .slice A n c] w fun e w' => ∃ F2, e = .returned (.int .i64 0) ∧ Fr w w' F ∧ rfAt w' F2 p (setL m a ks) ∧ ∀ x ∈ F2, x ∈ F ∨ w.heap.size ≤ x := by subst hn; exact RSet_ct F p m a A c ks w ht ha0 ha1 hnd hml hks hcc hAF
set_option maxHeartbeats 4000000 in
theorem WheelPlays_ct (slots : Int) (C : Option Addr) (c : Nat) (ops : List WOp) (w : World) (hops : Rd w 3 cellW C ops) (hok : ∀ o ∈ ops, wopAt w o) (hbk : totW ops ≤ 1048576) : Calls Try.prog 6 #[.int .i64 slots, .slice C ops.length c] w fun e w' => e = .returned (.bool true) ∧ Fr w w' [] := by
  refine enterD (n := 197) Try.func6 rfl rfl (Nat.le_of_ble_eq_true rfl) ?_
  intro Q0 hN hret hret'
  have htl_ := totW_len ops
  have hC := Cx.start w
  refine WC.seq (fun K1 hK2 => ?_)
  refine WC.region ?_
  refine WL.runs 1 [(4, .bool false)] (fun _ => by kernel_rfl) ?_
  refine WL.done rfl ?_
  refine QX.then_normal (hK2 _ _ ?_)
  refine WC.seq (fun K3 hK4 => ?_)
  refine WC.seq (fun K5 hK6 => ?_)
  refine WC.region ?_
  refine WL.call rfl rfl rfl rfl rfl (by kernel_rfl) (alive_ct w) ?_
  rintro _ w8 ⟨rfl, hF7⟩
  refine ⟨_, rfl, ?_⟩
  have hC9 := hC.call hF7
  refine WL.runs 1 [(22, .bool false)] (fun _ => by kernel_rfl) ?_
  refine WL.done rfl ?_
  refine QX.then_normal (hK6 _ _ ?_)
  refine WC.cond_false rfl ?_
  refine WC.skip ?_
  refine QX.then_normal (hK4 _ _ ?_)
  refine WC.seq (fun K10 hK11 => ?_)
  refine WC.region ?_
  refine WL.runs 1 [(24, .int .i64 slots)] (fun _ => by kernel_rfl) ?_
  rcases (show (slots < 1 ∨ 1024 < slots) ∨ (1 ≤ slots ∧ slots ≤ 1024) by omega) with hb12 | hb12
  · skip
    refine WL.call rfl rfl rfl rfl rfl (by kernel_rfl) (New_no slots w8 hb12) ?_
    rintro _ w14 ⟨rfl, hF13⟩
    refine ⟨_, rfl, ?_⟩
    have hC15 := hC9.call hF13
    refine WL.runs 5 [(6, .iface 45 (.int .i64 4)), (5, .pointer none), (27, .iface 45 (.int .i64 4)), (26, .pointer none), (23, .tuple #[.pointer none, .iface 45 (.int .i64 4)])] (fun _ => by kernel_rfl) ?_
    refine WL.done rfl ?_
    refine QX.then_normal (hK11 _ _ ?_)
    refine WC.seq (fun K16 hK17 => ?_)
    refine WC.seq (fun K18 hK19 => ?_)
    refine WC.region ?_
    refine WL.runs 3 [(30, .bool (decide (slots < 1))), (29, .bool (decide (slots < 1))), (28, .int .i64 slots)] (fun _ => by kernel_rfl) ?_
    refine WL.test_at 30 (decide (slots < 1)) rfl (fun t20b => ?_) (fun t20b => ?_)
    · -- slots < 1: true
      have t20 : slots < 1 := by have q_ := of_decide_eq_true t20b; omega
      refine WL.runs 3 [(33, .bool true), (32, undef), (31, undef)] (fun _ => by kernel_rfl) ?_
      refine WL.done rfl ?_
      refine QX.then_normal (hK19 _ _ ?_)
      refine WC.cond_true rfl ?_
      refine WC.seq (fun K21 hK22 => ?_)
      refine WC.region ?_
      refine WL.runs 8 [(4, .bool true), (40, .bool true), (39, .bool true), (38, .iface 45 (.int .i64 4)), (37, .iface 45 (.int .i64 4)), (36, .bool true), (35, .bool true), (34, .pointer none)] (fun _ => by kernel_rfl) ?_
      refine WL.done rfl ?_
      refine QX.then_normal (hK22 _ _ ?_)
      refine WC.ret ?_
      refine QX.then_ret ?_
      refine (hret _ _ _ rfl ?_).1
      clear hN hret hret' hK22 hK19 hK17 hK11 hK6 hK4 hK2
      exact ⟨rfl, hC15.fr⟩
    · -- slots < 1: false
      have t20 : (1 : Int) ≤ slots := by have q_ := of_decide_eq_false t20b; omega
      refine WL.runs 3 [(33, .bool (decide (slots > 1024))), (32, .bool (decide (slots > 1024))), (31, .int .i64 slots)] (fun _ => by kernel_rfl) ?_
      refine WL.done rfl ?_
      refine QX.then_normal (hK19 _ _ ?_)
      refine WC.test_at 33 (decide (slots > 1024)) rfl (fun t23b => ?_) (fun t23b => ?_)
      · -- slots > 1024: true
        have t23 : (1024 : Int) < slots := by have q_ := of_decide_eq_true t23b; omega
        refine WC.cond_true rfl ?_
        refine WC.seq (fun K24 hK25 => ?_)
        refine WC.region ?_
        refine WL.runs 8 [(4, .bool true), (40, .bool true), (39, .bool true), (38, .iface 45 (.int .i64 4)), (37, .iface 45 (.int .i64 4)), (36, .bool true), (35, .bool true), (34, .pointer none)] (fun _ => by kernel_rfl) ?_
        refine WL.done rfl ?_
        refine QX.then_normal (hK25 _ _ ?_)
        refine WC.ret ?_
        refine QX.then_ret ?_
        refine (hret _ _ _ rfl ?_).1
        clear hN hret hret' hK25 hK19 hK17 hK11 hK6 hK4 hK2
        exact ⟨rfl, hC15.fr⟩
      · -- slots > 1024: false
        have t23 : slots ≤ 1024 := by have q_ := of_decide_eq_false t23b; omega
        refine WC.cond_false rfl ?_
        refine WC.skip ?_
        refine QX.then_normal (hK17 _ _ ?_)
        refine WC.seq (fun K26 hK27 => ?_)
        refine WC.seq (fun K28 hK29 => ?_)
        refine WC.region ?_
        refine WL.runs 10 [(50, .bool true), (49, undef), (48, undef), (47, .bool true), (46, .bool true), (45, undef), (44, undef), (43, .bool true), (42, .bool true), (41, .iface 45 (.int .i64 4))] (fun _ => by kernel_rfl) ?_
        refine WL.done rfl ?_
        refine QX.then_normal (hK29 _ _ ?_)
        refine WC.cond_true rfl ?_
        refine WC.seq (fun K30 hK31 => ?_)
        refine WC.region ?_
        refine WL.runs 7 [(4, .bool false), (56, .bool false), (55, undef), (54, undef), (53, .bool false), (52, .bool false), (51, .iface 45 (.int .i64 4))] (fun _ => by kernel_rfl) ?_
        refine WL.done rfl ?_
        refine QX.then_normal (hK31 _ _ ?_)
        refine WC.ret ?_
        refine QX.then_ret ?_
        refine (hret _ _ _ rfl ?_).1
        clear hN hret hret' hK31 hK29 hK27 hK19 hK17 hK11 hK6 hK4 hK2
        exfalso; omega
  · obtain ⟨hs0_, hs1_⟩ := hb12
    refine WL.call rfl rfl rfl rfl rfl (by kernel_rfl) (New_z slots w8 (by omega) (by omega)) ?_
    rintro _ w37 ⟨p32, F33, rfl, hF36, hT34, hge35⟩
    have hC38 := hC9.callN hF36 hge35 (whAt_lt hT34)
    refine ⟨_, rfl, ?_⟩
    refine WL.runs 5 [(6, .nilIface), (5, .pointer (some ⟨p32, 0, none⟩)), (27, .nilIface), (26, .pointer (some ⟨p32, 0, none⟩)), (23, .tuple #[.pointer (some ⟨p32, 0, none⟩), .nilIface])] (fun _ => by kernel_rfl) ?_
    refine WL.done rfl ?_
    refine QX.then_normal (hK11 _ _ ?_)
    refine WC.seq (fun K40 hK41 => ?_)
    refine WC.seq (fun K42 hK43 => ?_)
    refine WC.region ?_
    refine WL.runs 3 [(30, .bool (decide (slots < 1))), (29, .bool (decide (slots < 1))), (28, .int .i64 slots)] (fun _ => by kernel_rfl) ?_
    refine WL.test_at 30 (decide (slots < 1)) rfl (fun t44b => ?_) (fun t44b => ?_)
    · -- slots < 1: true
      have t44 : slots < 1 := by have q_ := of_decide_eq_true t44b; omega
      refine WL.runs 3 [(33, .bool true), (32, undef), (31, undef)] (fun _ => by kernel_rfl) ?_
      refine WL.done rfl ?_
      refine QX.then_normal (hK43 _ _ ?_)
      refine WC.cond_true rfl ?_
      refine WC.seq (fun K45 hK46 => ?_)
      refine WC.region ?_
      refine WL.runs 8 [(4, .bool false), (40, .bool false), (39, undef), (38, undef), (37, undef), (36, .bool false), (35, .bool false), (34, .pointer (some ⟨p32, 0, none⟩))] (fun _ => by kernel_rfl) ?_
      refine WL.done rfl ?_
      refine QX.then_normal (hK46 _ _ ?_)
      refine WC.ret ?_
      refine QX.then_ret ?_
      refine (hret _ _ _ rfl ?_).1
      clear hN hret hret' hK46 hK43 hK41 hK11 hK6 hK4 hK2
      exfalso; omega
    · -- slots < 1: false
      have t44 : (1 : Int) ≤ slots := by have q_ := of_decide_eq_false t44b; omega
      refine WL.runs 3 [(33, .bool (decide (slots > 1024))), (32, .bool (decide (slots > 1024))), (31, .int .i64 slots)] (fun _ => by kernel_rfl) ?_
      refine WL.done rfl ?_
      refine QX.then_normal (hK43 _ _ ?_)
      refine WC.test_at 33 (decide (slots > 1024)) rfl (fun t47b => ?_) (fun t47b => ?_)
      · -- slots > 1024: true
        have t47 : (1024 : Int) < slots := by have q_ := of_decide_eq_true t47b; omega
        refine WC.cond_true rfl ?_
        refine WC.seq (fun K48 hK49 => ?_)
        refine WC.region ?_
        refine WL.runs 8 [(4, .bool false), (40, .bool false), (39, undef), (38, undef), (37, undef), (36, .bool false), (35, .bool false), (34, .pointer (some ⟨p32, 0, none⟩))] (fun _ => by kernel_rfl) ?_
        refine WL.done rfl ?_
        refine QX.then_normal (hK49 _ _ ?_)
        refine WC.ret ?_
        refine QX.then_ret ?_
        refine (hret _ _ _ rfl ?_).1
        clear hN hret hret' hK49 hK43 hK41 hK11 hK6 hK4 hK2
        exfalso; omega
      · -- slots > 1024: false
        have t47 : slots ≤ 1024 := by have q_ := of_decide_eq_false t47b; omega
        refine WC.cond_false rfl ?_
        refine WC.skip ?_
        refine QX.then_normal (hK41 _ _ ?_)
        refine WC.seq (fun K50 hK51 => ?_)
        refine WC.seq (fun K52 hK53 => ?_)
        refine WC.region ?_
        refine WL.runs 8 [(48, .slice C ops.length c), (47, .bool false), (46, .bool false), (45, .bool false), (44, .pointer (some ⟨p32, 0, none⟩)), (43, .bool false), (42, .bool false), (41, .nilIface)] (fun _ => by kernel_rfl) ?_
        refine WL.call rfl rfl rfl rfl rfl (by kernel_rfl) (long_ct C c ops w37 (Rd.fr hops hC38.fr) (fun o_ h_ => (hok o_ h_).fr hC38.fr) hbk) ?_
        rintro _ w56 ⟨b54, rfl, hF55⟩
        refine ⟨_, rfl, ?_⟩
        have hC57 := hC38.call hF55
        have hf58 := whAt_fr hT34 hF55 (by simp)
        refine WL.runs 1 [(50, .bool b54)] (fun _ => by kernel_rfl) ?_
        refine WL.done rfl ?_
        refine QX.then_normal (hK53 _ _ ?_)
        refine WC.test_at 50 (b54) rfl (fun t59b => ?_) (fun t59b => ?_)
        · -- b54 = true: true
          refine WC.cond_true rfl ?_
          refine WC.seq (fun K60 hK61 => ?_)
          refine WC.region ?_
          refine WL.runs 7 [(4, .bool true), (56, .bool true), (55, .bool true), (54, .pointer (some ⟨p32, 0, none⟩)), (53, .bool true), (52, .bool true), (51, .nilIface)] (fun _ => by kernel_rfl) ?_
          refine WL.done rfl ?_
          refine QX.then_normal (hK61 _ _ ?_)
          refine WC.ret ?_
          refine QX.then_ret ?_
          refine (hret _ _ _ rfl ?_).1
          clear hN hret hret' hK61 hK53 hK51 hK43 hK41 hK11 hK6 hK4 hK2
          exact ⟨rfl, hC57.fr⟩
        · -- b54 = true: false
          refine WC.cond_false rfl ?_
          refine WC.skip ?_
          refine QX.then_normal (hK51 _ _ ?_)
          refine WC.seq (fun K62 hK63 => ?_)
          refine WC.region ?_
          refine WL.runs 1 [(57, .agg #[.slice none 0 0])] (fun _ => by kernel_rfl) ?_
          refine WL.newM hC57 (fun b => .pointer (some ⟨b, 0, none⟩)) (.cells #[.slice none 0 0] 49) 58 (fun _ => by kernel_rfl) (fun g64 w65 hb68 hF66 hC67 => ?_)
          have hf69 := whAt_fr hf58 hF66 (by simp)
          have hC70 := hC67.addNil
          refine WL.runs 1 [(7, .pointer (some ⟨g64, 0, none⟩))] (fun _ => by kernel_rfl) ?_
          refine WL.done rfl ?_
          refine QX.then_normal (hK63 _ _ ?_)
          refine WC.seq (fun K71 hK72 => ?_)
          refine WC.seq (fun K73 hK74 => ?_)
          refine WC.region ?_
          refine WL.runs 3 [(61, .int .i64 0), (60, .int .i64 (ops.length : Int)), (59, .slice C ops.length c)] (fun _ => by kernel_rfl) ?_
          refine WL.done rfl ?_
          refine QX.then_normal (hK74 _ _ ?_)
          refine WC.block ?_
          refine WC.loop (fun m_ E_ w_ => ∃ (i : Nat) (F5 : List Nat) (A5 : Option Addr) (n5 c5 : Nat) (m5 : List (Int × Int)) (h5 : Int), m_ = ops.length - i ∧ E_ = [(0, .int .i64 slots), (1, .slice C ops.length c), (5, .pointer (some ⟨p32, 0, none⟩)), (7, .pointer (some ⟨g64, 0, none⟩)), (59, .slice C ops.length c), (60, .int .i64 (ops.length : Int)), (61, .int .i64 (i : Int))] ∧ Cx w [] w_ [(g64, .cells #[.slice A5 n5 c5] 49)] [F5, blk (.slice A5 n5 c5)] ∧ whAt w_ F5 p32 (Int.toNat slots) m5 h5 ∧ World.ownsRow w_ 0 75 2 (.slice A5 n5 c5) n5 (m5.flatMap tmC) ∧ (i ≤ ops.length ∧ handOk m5 h5 ∧ m5.length ≤ totW (ops.take i))) ⟨_, _, ⟨0, F33, none, 0, 0, [], 0, rfl, rfl, hC70, hf69, own_nil _ _ _ _, Nat.zero_le _, ⟨by omega, (fun _ h_ => nomatch h_)⟩, Nat.zero_le _⟩, sub_of ⟨rfl, rfl, rfl, rfl, rfl, rfl, rfl, trivial⟩⟩ (fun m78 E_ w79 K75 hK76 hI77 => ?_)
          obtain ⟨i, F5, A5, n5, c5, m5, h5, rfl, rfl, hC80, hx5, hrow5, hi, hhd, hml5⟩ := hI77
          have hnd_ := (whAt_ok hx5).2.1
          have htl5_ := totW_le ops i
          have hc5_ := own_count tmC_len (by decide) hrow5
          refine WC.seq (fun K81 hK82 => ?_)
          refine WC.region ?_
          refine WL.runs 1 [(62, .bool (decide ((i : Int) < (ops.length : Int))))] (fun _ => by kernel_rfl) ?_
          refine WL.done rfl ?_
          refine QX.then_normal (hK82 _ _ ?_)
          refine WC.seq (fun K83 hK84 => ?_)
          refine WC.test_at 62 (decide ((i : Int) < (ops.length : Int))) rfl (fun t85b => ?_) (fun t85b => ?_)
          · -- (i : Int) < (ops.length : Int): true
            have t85 : (i : Int) < (ops.length : Int) := by have q_ := of_decide_eq_true t85b; omega
            refine WC.cond_true rfl ?_
            refine WC.skip ?_
            refine QX.then_normal (hK84 _ _ ?_)
            refine WC.seq (fun K86 hK87 => ?_)
            refine WC.block ?_
            refine WC.seq (fun K88 hK89 => ?_)
            refine WC.region ?_
            obtain ⟨e90, he91⟩ := get_some (xs := ops) (i := i) (by omega)
            obtain ⟨b92, o94, hA93, hc95⟩ := hops.at_ _ _ he91
            have hop_e90 := hok _ (List.mem_of_getElem? he91)
            have htm_e90 := totW_mem (List.mem_of_getElem? he91)
            have hle_e90 := hop_e90.len
            refine WL.index C ops.length c 63 .i64 (i : Int) b92 o94 i 3 (by kernel_rfl) hA93 (by omega) (by omega) (o94 + i * 3) (by first | (simp; done) | omega) ?_
            refine WL.load 36 (.pointer (some ⟨b92, o94 + i * 3, none⟩)) (.agg #[.int .i64 e90.kind, .int .i64 e90.at_, .slice e90.A e90.n e90.c]) 64 (by kernel_rfl) (run_rdN (l := [.int .i64 e90.kind, .int .i64 e90.at_, .slice e90.A e90.n e90.c]) rfl rfl (fun j u hu => by have hq_ := hC80.fr.cell (hc95 j u hu) (by simp); simpa [Nat.add_assoc] using hq_)) ?_
            have hai_ := hop_e90.hi
            have hcp_ := hop_e90.cap
            refine WL.newM hC80 (fun b => .pointer (some ⟨b, 0, none⟩)) (.cells #[.int .i64 0, .int .i64 0, .slice none 0 0] 36) 9 (fun _ => by kernel_rfl) (fun g96 w97 hb100 hF98 hC99 => ?_)
            have hf101 := whAt_fr hx5 hF98 (by simp)
            have ho102 := own_fr hrow5 hF98 (by simp)
            refine WL.storeM (c' := #[.int .i64 e90.kind, .int .i64 e90.at_, .slice e90.A e90.n e90.c]) hC99 1 36 g96 0 (.agg #[.int .i64 e90.kind, .int .i64 e90.at_, .slice e90.A e90.n e90.c]) (by kernel_rfl) rfl (by kernel_rfl) (fun w103 hF105 hC106 => ?_)
            have hf107 := whAt_fr hf101 hF105 (hC99.apartM 0 1 rfl rfl)
            have ho108 := own_fr ho102 hF105 (hC99.apartM 1 1 rfl rfl)
            refine WL.done rfl ?_
            refine QX.then_normal (hK89 _ _ ?_)
            refine WC.seqI (fun E_ w_ => ∃ (A6 : Option Addr) (c6 : Nat), E_ = [(0, .int .i64 slots), (1, .slice C ops.length c), (5, .pointer (some ⟨p32, 0, none⟩)), (7, .pointer (some ⟨g64, 0, none⟩)), (9, .pointer (some ⟨g96, 0, none⟩)), (10, .slice A6 e90.n c6), (59, .slice C ops.length c), (60, .int .i64 (ops.length : Int)), (61, .int .i64 (i : Int)), (62, .bool true), (63, .pointer (some ⟨b92, o94 + i * 3, none⟩)), (64, .agg #[.int .i64 e90.kind, .int .i64 e90.at_, .slice e90.A e90.n e90.c])] ∧ Cx w [] w_ [(g64, .cells #[.slice A5 n5 c5] 49), (g96, .cells #[.int .i64 e90.kind, .int .i64 e90.at_, .slice e90.A e90.n e90.c] 36)] [F5, blk (.slice A5 n5 c5), blk (.slice A6 (e90.n + 1) c6)] ∧ whAt w_ F5 p32 (Int.toNat slots) m5 h5 ∧ World.ownsRow w_ 0 75 2 (.slice A5 n5 c5) n5 (m5.flatMap tmC) ∧ World.ownsRow w_ 0 3 1 (.slice A6 e90.n c6) e90.n (e90.ks.flatMap (Go.Tw.encI .i64)) ∧ World.ownsRow w_ 0 3 1 (.slice A6 (e90.n + 1) c6) (e90.n + 1) ((e90.ks ++ [-77]).flatMap (Go.Tw.encI .i64)) ∧ (True)) (fun K109 hK110 => ?_) ?_
            · skip
              refine WC.drawC hC106 [] (by kernel_rfl) (fun w114 hF115 hC116 hS117 => ?_)
              have hf118 := whAt_fr hf107 hF115 (by simp)
              have ho119 := own_fr ho108 hF115 (by simp)
              refine WD.pure (NoPanic.then (NoPanic.block (NoPanic.then (NoPanic.then (NoPanic.block (NoPanic.then hN)))))) 0 65 (.pointer (some ⟨g96, 2, none⟩)) (by kernel_rfl) (fun _ => by kernel_rfl) hS117 ?_
              refine WD.pure (NoPanic.then (NoPanic.block (NoPanic.then (NoPanic.then (NoPanic.block (NoPanic.then hN)))))) 5 70 (.pointer (some ⟨g96, 2, none⟩)) (by kernel_rfl) (fun _ => by kernel_rfl) hS117 ?_
              refine WD.pure (NoPanic.then (NoPanic.block (NoPanic.then (NoPanic.then (NoPanic.block (NoPanic.then hN)))))) 10 75 (.pointer (some ⟨g96, 2, none⟩)) (by kernel_rfl) (fun _ => by kernel_rfl) hS117 ?_
              refine WD.load (NoPanic.then (NoPanic.block (NoPanic.then (NoPanic.then (NoPanic.block (NoPanic.then hN)))))) 1 22 (.pointer (some ⟨g96, 2, none⟩)) (.slice e90.A e90.n e90.c) 66 (by kernel_rfl) (by kernel_rfl) (fun _ hS_ => run_ld (Fr.has hS_ (hC116.get 1 rfl) (by simp)) rfl) hS117 ?_
              refine WD.pure (NoPanic.then (NoPanic.block (NoPanic.then (NoPanic.then (NoPanic.block (NoPanic.then hN)))))) 2 67 (.int .i64 (e90.n : Int)) (by kernel_rfl) (fun _ => by kernel_rfl) hS117 ?_
              refine WD.pure (NoPanic.then (NoPanic.block (NoPanic.then (NoPanic.then (NoPanic.block (NoPanic.then hN)))))) 3 68 (.int .i64 (IntKind.i64.wrap ((e90.n : Int) + 1))) (by kernel_rfl) (fun _ => by kernel_rfl) hS117 ?_
              refine WD.recast (show (.int .i64 (IntKind.i64.wrap ((e90.n : Int) + 1)) : Value) = .int .i64 ((e90.n : Int) + 1) from by rw [wrap_in_i64 ((e90.n : Int) + 1) (by omega) (by omega)]) ?_
              refine WD.load (NoPanic.then (NoPanic.block (NoPanic.then (NoPanic.then (NoPanic.block (NoPanic.then hN)))))) 6 22 (.pointer (some ⟨g96, 2, none⟩)) (.slice e90.A e90.n e90.c) 71 (by kernel_rfl) (by kernel_rfl) (fun _ hS_ => run_ld (Fr.has hS_ (hC116.get 1 rfl) (by simp)) rfl) hS117 ?_
              refine WD.load (NoPanic.then (NoPanic.block (NoPanic.then (NoPanic.then (NoPanic.block (NoPanic.then hN)))))) 11 22 (.pointer (some ⟨g96, 2, none⟩)) (.slice e90.A e90.n e90.c) 76 (by kernel_rfl) (by kernel_rfl) (fun _ hS_ => run_ld (Fr.has hS_ (hC116.get 1 rfl) (by simp)) rfl) hS117 ?_
              refine WD.pure (NoPanic.then (NoPanic.block (NoPanic.then (NoPanic.then (NoPanic.block (NoPanic.then hN)))))) 12 77 (.int .i64 (e90.n : Int)) (by kernel_rfl) (fun _ => by kernel_rfl) hS117 ?_
              refine WD.all2 4 8 (by kernel_rfl) ?_ ?_
              · -- operation 4 comes first
                obtain ⟨g120, w121, hr122, ho123, hF124, hC125, hge126⟩ := make0_run Try.prog hC116 22 3 1 8 (e90.n + 1) .i64 .i64 ((e90.n : Int) + 1) rfl (by omega) (by omega) (by simp only [maxLen]; omega)
                have hS127 := hS117.trans hF124 (by simp)
                refine WO.sem 4 (Instr.makeSlice 22 (.int .i64 0) (.int .i64 ((e90.n : Int) + 1))) 69 (.slice (some ⟨g120, 0, none⟩) 0 (e90.n + 1)) (by kernel_rfl) (by kernel_rfl) hr122 hS127 ?_
                have hf128 := whAt_fr hf118 hF124 (by simp)
                have ho129 := own_fr ho119 hF124 (by simp)
                refine WD.all2 7 8 (by kernel_rfl) ?_ ?_
                · -- operation 7 comes first
                  obtain ⟨v131, w132, hr133, ho134, hF135, hC136, hnil137, hsub138⟩ := app_run Try.prog hC125 2 (v := .slice (some ⟨g120, 0, none⟩) 0 (e90.n + 1)) rfl 22 22 3 1 8 0 e90.n e90.c e90.A rfl ho123 (e90.ks.flatMap (Go.Tw.encI .i64)) (flat_len_n (Go.Tw.encI_len _) (by first | rfl | assumption | (simp; done) | (simp; omega))) (Rd.src_n (Rd.fr hop_e90.row hC125.fr) (Go.Tw.encI_len _) (by decide) (by first | rfl | assumption | (simp; done) | (simp; omega))) (flat_one (Go.Tw.encI_one _) _) (by simp only [maxLen]; omega) (by omega)
                  have ho142 := own_app (enc := (Go.Tw.encI .i64)) (ys := []) (zs := e90.ks) ho134
                  obtain ⟨A139, c140, rfl, hle141⟩ := own_form ho142
                  have hge143 : ∀ x_ ∈ blk (.slice (some ⟨g120, 0, none⟩) 0 (e90.n + 1)), w114.heap.size ≤ x_ := by first | (simp [blk, Value.ownBlock, *]; done) | (intro x_ hx_; simp [blk, Value.ownBlock] at hx_; omega)
                  have hge144 : ∀ x_ ∈ blk (.slice A139 (0 + e90.n) c140), w114.heap.size ≤ x_ := fun x_ hx_ => (hsub138 x_ hx_).elim (hge143 x_) (fun h_ => Nat.le_trans hS127.size h_)
                  have hS145 := hS127.trans hF135 (fun x_ hx_ => .inr (hge143 x_ hx_))
                  refine WO.sem 7 (Builtin.append_ #[22, 22] 22 #[.slice (some ⟨g120, 0, none⟩) 0 (e90.n + 1), .slice e90.A e90.n e90.c]) 72 (.slice A139 (0 + e90.n) c140) (by kernel_rfl) (by kernel_rfl) hr133 hS145 ?_
                  have hf146 := whAt_fr hf128 hF135 (hC125.disj 0 2 rfl rfl (by decide))
                  have ho147 := own_fr ho129 hF135 (hC125.disj 1 2 rfl rfl (by decide))
                  refine WD.new 8 (fun b => .slice (some ⟨b, 0, none⟩) 1 1) (.cells #[.int .i64 (-77)] 3) (by kernel_rfl) rfl rfl rfl rfl rfl (fun _ => by kernel_rfl) (fun g148 w149 hb152 hl153 hF150 ho154 => ?_)
                  have hC151 := hC136.callB hF150 hb152 ho154
                  have hS155 := hS145.trans hF150 (by simp)
                  refine ⟨hS155, ?_⟩
                  have hf156 := whAt_fr hf146 hF150 (by simp)
                  have ho157 := own_fr ho147 hF150 (by simp)
                  have ho158 := own_fr ho142 hF150 (by simp)
                  obtain ⟨v159, w160, hr161, ho162, hF163, hC164, hnil165, hsub166⟩ := app_run Try.prog hC151 2 (v := .slice A139 (0 + e90.n) c140) rfl 22 22 3 1 8 (0 + e90.n) 1 1 (some ⟨g148, 0, none⟩) rfl ho158 [.int .i64 (-77)] rfl (srcOk.blk 1 (hC151.get 2 rfl)) rfl (by simp only [maxLen]; omega) (by omega)
                  have ho170 := own_snoc (enc := (Go.Tw.encI .i64)) (ys := [] ++ e90.ks) (-77) ho162
                  obtain ⟨A167, c168, rfl, hle169⟩ := own_form ho170
                  have hge171 : ∀ x_ ∈ blk (.slice A167 (0 + e90.n + 1) c168), w114.heap.size ≤ x_ := fun x_ hx_ => (hsub166 x_ hx_).elim (hge144 x_) (fun h_ => Nat.le_trans hS155.size h_)
                  have hS172 := hS155.trans hF163 (fun x_ hx_ => .inr (hge144 x_ hx_))
                  refine WD.sem 9 (Builtin.append_ #[22, 22] 22 #[.slice A139 (0 + e90.n) c140, .slice (some ⟨g148, 0, none⟩) 1 1]) 74 (.slice A167 (0 + e90.n + 1) c168) (by kernel_rfl) (by kernel_rfl) hr161 hS172 ?_
                  have hf173 := whAt_fr hf156 hF163 (hC151.disj 0 2 rfl rfl (by decide))
                  have ho174 := own_fr ho157 hF163 (hC151.disj 1 2 rfl rfl (by decide))
                  have hle_ := own_le ho170
                  have hb175 : e90.n ≤ c168 := by omega
                  refine WD.slc (NoPanic.then (NoPanic.block (NoPanic.then (NoPanic.then (NoPanic.block (NoPanic.then hN)))))) 13 22 3 1 A167 A167 (0 + e90.n + 1) c168 0 e90.n e90.n c168 none (some (.int .i64 (e90.n : Int))) 78 (by kernel_rfl) (by kernel_rfl) (by kernel_rfl) bnd.no (bnd.yes (by omega)) (by omega) hb175 (slcAt_pre _ _ _) (by first | rfl | omega) (by first | rfl | omega) hS172 ?_
                  have ho176 := own_takeE (m := e90.n) (Go.Tw.encI_len _) ho170 (by omega)
                  refine WD.pure (NoPanic.then (NoPanic.block (NoPanic.then (NoPanic.then (NoPanic.block (NoPanic.then hN)))))) 14 10 (.slice A167 e90.n c168) (by kernel_rfl) (fun _ => by kernel_rfl) hS172 ?_
                  refine WD.done (by kernel_rfl) ?_
                  refine QX.then_normal ?_
                  have hC178 := hC164.pickM [0, 1] [0, 1, 2] (by decide) rfl rfl
                  rw [show (0 + e90.n + 1 : Nat) = e90.n + 1 from by omega] at hC178
                  have hcx179 := ho176
                  rw [show List.take e90.n (([] : List Int) ++ e90.ks ++ [-77]) = e90.ks from by rw [List.nil_append]; exact take_ks hop_e90.len _] at hcx179
                  have hcf180 := ho170
                  rw [show (0 + e90.n + 1 : Nat) = e90.n + 1 from by omega, show ([] : List Int) ++ e90.ks ++ [-77] = e90.ks ++ [-77] from by rw [List.nil_append]] at hcf180
                  exact fun a_ ha_ => hK110 _ _ ⟨A167, c168, rfl, hC178, hf173, ho174, hcx179, hcf180, trivial⟩ a_ (ha_.weaken (sub_of ⟨rfl, rfl, rfl, rfl, rfl, rfl, rfl, rfl, rfl, rfl, rfl, rfl, trivial⟩))
                · -- operation 8 comes first
                  refine WO.new 8 (fun b => .slice (some ⟨b, 0, none⟩) 1 1) (.cells #[.int .i64 (-77)] 3) (by kernel_rfl) rfl rfl rfl rfl rfl (fun _ => by kernel_rfl) (fun g181 w182 hb185 hl186 hF183 ho187 => ?_)
                  have hC184 := hC125.callB hF183 hb185 ho187
                  have hS188 := hS127.trans hF183 (by simp)
                  refine ⟨hS188, ?_⟩
                  have hf189 := whAt_fr hf128 hF183 (by simp)
                  have ho190 := own_fr ho129 hF183 (by simp)
                  have ho191 := own_fr ho123 hF183 (by simp)
                  obtain ⟨v192, w193, hr194, ho195, hF196, hC197, hnil198, hsub199⟩ := app_run Try.prog hC184 2 (v := .slice (some ⟨g120, 0, none⟩) 0 (e90.n + 1)) rfl 22 22 3 1 8 0 e90.n e90.c e90.A rfl ho191 (e90.ks.flatMap (Go.Tw.encI .i64)) (flat_len_n (Go.Tw.encI_len _) (by first | rfl | assumption | (simp; done) | (simp; omega))) (Rd.src_n (Rd.fr hop_e90.row hC184.fr) (Go.Tw.encI_len _) (by decide) (by first | rfl | assumption | (simp; done) | (simp; omega))) (flat_one (Go.Tw.encI_one _) _) (by simp only [maxLen]; omega) (by omega)
                  have ho203 := own_app (enc := (Go.Tw.encI .i64)) (ys := []) (zs := e90.ks) ho195
                  obtain ⟨A200, c201, rfl, hle202⟩ := own_form ho203
                  have hge204 : ∀ x_ ∈ blk (.slice (some ⟨g120, 0, none⟩) 0 (e90.n + 1)), w114.heap.size ≤ x_ := by first | (simp [blk, Value.ownBlock, *]; done) | (intro x_ hx_; simp [blk, Value.ownBlock] at hx_; omega)
                  have hge205 : ∀ x_ ∈ blk (.slice A200 (0 + e90.n) c201), w114.heap.size ≤ x_ := fun x_ hx_ => (hsub199 x_ hx_).elim (hge204 x_) (fun h_ => Nat.le_trans hS188.size h_)
                  have hS206 := hS188.trans hF196 (fun x_ hx_ => .inr (hge204 x_ hx_))
                  refine WD.sem 7 (Builtin.append_ #[22, 22] 22 #[.slice (some ⟨g120, 0, none⟩) 0 (e90.n + 1), .slice e90.A e90.n e90.c]) 72 (.slice A200 (0 + e90.n) c201) (by kernel_rfl) (by kernel_rfl) hr194 hS206 ?_
                  have hf207 := whAt_fr hf189 hF196 (hC184.disj 0 2 rfl rfl (by decide))
                  have ho208 := own_fr ho190 hF196 (hC184.disj 1 2 rfl rfl (by decide))
                  obtain ⟨v209, w210, hr211, ho212, hF213, hC214, hnil215, hsub216⟩ := app_run Try.prog hC197 2 (v := .slice A200 (0 + e90.n) c201) rfl 22 22 3 1 8 (0 + e90.n) 1 1 (some ⟨g181, 0, none⟩) rfl ho203 [.int .i64 (-77)] rfl (srcOk.blk 1 (hC197.get 2 rfl)) rfl (by simp only [maxLen]; omega) (by omega)
                  have ho220 := own_snoc (enc := (Go.Tw.encI .i64)) (ys := [] ++ e90.ks) (-77) ho212
                  obtain ⟨A217, c218, rfl, hle219⟩ := own_form ho220
                  have hge221 : ∀ x_ ∈ blk (.slice A217 (0 + e90.n + 1) c218), w114.heap.size ≤ x_ := fun x_ hx_ => (hsub216 x_ hx_).elim (hge205 x_) (fun h_ => Nat.le_trans hS206.size h_)
                  have hS222 := hS206.trans hF213 (fun x_ hx_ => .inr (hge205 x_ hx_))
                  refine WD.sem 9 (Builtin.append_ #[22, 22] 22 #[.slice A200 (0 + e90.n) c201, .slice (some ⟨g181, 0, none⟩) 1 1]) 74 (.slice A217 (0 + e90.n + 1) c218) (by kernel_rfl) (by kernel_rfl) hr211 hS222 ?_
                  have hf223 := whAt_fr hf207 hF213 (hC197.disj 0 2 rfl rfl (by decide))
                  have ho224 := own_fr ho208 hF213 (hC197.disj 1 2 rfl rfl (by decide))
                  have hle_ := own_le ho220
                  have hb225 : e90.n ≤ c218 := by omega
                  refine WD.slc (NoPanic.then (NoPanic.block (NoPanic.then (NoPanic.then (NoPanic.block (NoPanic.then hN)))))) 13 22 3 1 A217 A217 (0 + e90.n + 1) c218 0 e90.n e90.n c218 none (some (.int .i64 (e90.n : Int))) 78 (by kernel_rfl) (by kernel_rfl) (by kernel_rfl) bnd.no (bnd.yes (by omega)) (by omega) hb225 (slcAt_pre _ _ _) (by first | rfl | omega) (by first | rfl | omega) hS222 ?_
                  have ho226 := own_takeE (m := e90.n) (Go.Tw.encI_len _) ho220 (by omega)
                  refine WD.pure (NoPanic.then (NoPanic.block (NoPanic.then (NoPanic.then (NoPanic.block (NoPanic.then hN)))))) 14 10 (.slice A217 e90.n c218) (by kernel_rfl) (fun _ => by kernel_rfl) hS222 ?_
                  refine WD.done (by kernel_rfl) ?_
                  refine QX.then_normal ?_
                  have hC228 := hC214.pickM [0, 1] [0, 1, 2] (by decide) rfl rfl
                  rw [show (0 + e90.n + 1 : Nat) = e90.n + 1 from by omega] at hC228
                  have hcx229 := ho226
                  rw [show List.take e90.n (([] : List Int) ++ e90.ks ++ [-77]) = e90.ks from by rw [List.nil_append]; exact take_ks hop_e90.len _] at hcx229
                  have hcf230 := ho220
                  rw [show (0 + e90.n + 1 : Nat) = e90.n + 1 from by omega, show ([] : List Int) ++ e90.ks ++ [-77] = e90.ks ++ [-77] from by rw [List.nil_append]] at hcf230
                  exact fun a_ ha_ => hK110 _ _ ⟨A217, c218, rfl, hC228, hf223, ho224, hcx229, hcf230, trivial⟩ a_ (ha_.weaken (sub_of ⟨rfl, rfl, rfl, rfl, rfl, rfl, rfl, rfl, rfl, rfl, rfl, rfl, trivial⟩))
              · -- operation 8 comes first
                refine WO.new 8 (fun b => .slice (some ⟨b, 0, none⟩) 1 1) (.cells #[.int .i64 (-77)] 3) (by kernel_rfl) rfl rfl rfl rfl rfl (fun _ => by kernel_rfl) (fun g231 w232 hb235 hl236 hF233 ho237 => ?_)
                have hC234 := hC116.callB hF233 hb235 ho237
                have hS238 := hS117.trans hF233 (by simp)
                refine ⟨hS238, ?_⟩
                have hf239 := whAt_fr hf118 hF233 (by simp)
                have ho240 := own_fr ho119 hF233 (by simp)
                obtain ⟨g241, w242, hr243, ho244, hF245, hC246, hge247⟩ := make0_run Try.prog hC234 22 3 1 8 (e90.n + 1) .i64 .i64 ((e90.n : Int) + 1) rfl (by omega) (by omega) (by simp only [maxLen]; omega)
                have hS248 := hS238.trans hF245 (by simp)
                refine WD.sem 4 (Instr.makeSlice 22 (.int .i64 0) (.int .i64 ((e90.n : Int) + 1))) 69 (.slice (some ⟨g241, 0, none⟩) 0 (e90.n + 1)) (by kernel_rfl) (by kernel_rfl) hr243 hS248 ?_
                have hf249 := whAt_fr hf239 hF245 (by simp)
                have ho250 := own_fr ho240 hF245 (by simp)
                obtain ⟨v252, w253, hr254, ho255, hF256, hC257, hnil258, hsub259⟩ := app_run Try.prog hC246 2 (v := .slice (some ⟨g241, 0, none⟩) 0 (e90.n + 1)) rfl 22 22 3 1 8 0 e90.n e90.c e90.A rfl ho244 (e90.ks.flatMap (Go.Tw.encI .i64)) (flat_len_n (Go.Tw.encI_len _) (by first | rfl | assumption | (simp; done) | (simp; omega))) (Rd.src_n (Rd.fr hop_e90.row hC246.fr) (Go.Tw.encI_len _) (by decide) (by first | rfl | assumption | (simp; done) | (simp; omega))) (flat_one (Go.Tw.encI_one _) _) (by simp only [maxLen]; omega) (by omega)
                have ho263 := own_app (enc := (Go.Tw.encI .i64)) (ys := []) (zs := e90.ks) ho255
                obtain ⟨A260, c261, rfl, hle262⟩ := own_form ho263
                have hge264 : ∀ x_ ∈ blk (.slice (some ⟨g241, 0, none⟩) 0 (e90.n + 1)), w114.heap.size ≤ x_ := by first | (simp [blk, Value.ownBlock, *]; done) | (intro x_ hx_; simp [blk, Value.ownBlock] at hx_; omega)
                have hge265 : ∀ x_ ∈ blk (.slice A260 (0 + e90.n) c261), w114.heap.size ≤ x_ := fun x_ hx_ => (hsub259 x_ hx_).elim (hge264 x_) (fun h_ => Nat.le_trans hS248.size h_)
                have hS266 := hS248.trans hF256 (fun x_ hx_ => .inr (hge264 x_ hx_))
                refine WD.sem 7 (Builtin.append_ #[22, 22] 22 #[.slice (some ⟨g241, 0, none⟩) 0 (e90.n + 1), .slice e90.A e90.n e90.c]) 72 (.slice A260 (0 + e90.n) c261) (by kernel_rfl) (by kernel_rfl) hr254 hS266 ?_
                have hf267 := whAt_fr hf249 hF256 (hC246.disj 0 2 rfl rfl (by decide))
                have ho268 := own_fr ho250 hF256 (hC246.disj 1 2 rfl rfl (by decide))
                obtain ⟨v269, w270, hr271, ho272, hF273, hC274, hnil275, hsub276⟩ := app_run Try.prog hC257 2 (v := .slice A260 (0 + e90.n) c261) rfl 22 22 3 1 8 (0 + e90.n) 1 1 (some ⟨g231, 0, none⟩) rfl ho263 [.int .i64 (-77)] rfl (srcOk.blk 1 (hC257.get 2 rfl)) rfl (by simp only [maxLen]; omega) (by omega)
                have ho280 := own_snoc (enc := (Go.Tw.encI .i64)) (ys := [] ++ e90.ks) (-77) ho272
                obtain ⟨A277, c278, rfl, hle279⟩ := own_form ho280
                have hge281 : ∀ x_ ∈ blk (.slice A277 (0 + e90.n + 1) c278), w114.heap.size ≤ x_ := fun x_ hx_ => (hsub276 x_ hx_).elim (hge265 x_) (fun h_ => Nat.le_trans hS266.size h_)
                have hS282 := hS266.trans hF273 (fun x_ hx_ => .inr (hge265 x_ hx_))
                refine WD.sem 9 (Builtin.append_ #[22, 22] 22 #[.slice A260 (0 + e90.n) c261, .slice (some ⟨g231, 0, none⟩) 1 1]) 74 (.slice A277 (0 + e90.n + 1) c278) (by kernel_rfl) (by kernel_rfl) hr271 hS282 ?_
                have hf283 := whAt_fr hf267 hF273 (hC257.disj 0 2 rfl rfl (by decide))
                have ho284 := own_fr ho268 hF273 (hC257.disj 1 2 rfl rfl (by decide))
                have hle_ := own_le ho280
                have hb285 : e90.n ≤ c278 := by omega
                refine WD.slc (NoPanic.then (NoPanic.block (NoPanic.then (NoPanic.then (NoPanic.block (NoPanic.then hN)))))) 13 22 3 1 A277 A277 (0 + e90.n + 1) c278 0 e90.n e90.n c278 none (some (.int .i64 (e90.n : Int))) 78 (by kernel_rfl) (by kernel_rfl) (by kernel_rfl) bnd.no (bnd.yes (by omega)) (by omega) hb285 (slcAt_pre _ _ _) (by first | rfl | omega) (by first | rfl | omega) hS282 ?_
                have ho286 := own_takeE (m := e90.n) (Go.Tw.encI_len _) ho280 (by omega)
                refine WD.pure (NoPanic.then (NoPanic.block (NoPanic.then (NoPanic.then (NoPanic.block (NoPanic.then hN)))))) 14 10 (.slice A277 e90.n c278) (by kernel_rfl) (fun _ => by kernel_rfl) hS282 ?_
                refine WD.done (by kernel_rfl) ?_
                refine QX.then_normal ?_
                have hC288 := hC274.pickM [0, 1] [0, 1, 2] (by decide) rfl rfl
                rw [show (0 + e90.n + 1 : Nat) = e90.n + 1 from by omega] at hC288
                have hcx289 := ho286
                rw [show List.take e90.n (([] : List Int) ++ e90.ks ++ [-77]) = e90.ks from by rw [List.nil_append]; exact take_ks hop_e90.len _] at hcx289
                have hcf290 := ho280
                rw [show (0 + e90.n + 1 : Nat) = e90.n + 1 from by omega, show ([] : List Int) ++ e90.ks ++ [-77] = e90.ks ++ [-77] from by rw [List.nil_append]] at hcf290
                exact fun a_ ha_ => hK110 _ _ ⟨A277, c278, rfl, hC288, hf283, ho284, hcx289, hcf290, trivial⟩ a_ (ha_.weaken (sub_of ⟨rfl, rfl, rfl, rfl, rfl, rfl, rfl, rfl, rfl, rfl, rfl, rfl, trivial⟩))
            rintro E_ w112 ⟨A6, c6, rfl, hC113, whl39_m111, row_m111, hcx6, hcf6, hinvm111⟩
            have hcap6_ := own_le hcf6
            refine WC.seq (fun K291 hK292 => ?_)
            refine WC.region ?_
            refine WL.runs 1 [(11, .bool false)] (fun _ => by kernel_rfl) ?_
            refine WL.done rfl ?_
            refine QX.then_normal (hK292 _ _ ?_)
            refine WC.seqI (fun E_ w_ => ∃ (ok8 : Bool) (F8 : List Nat) (A8 : Option Addr) (n8 c8 : Nat) (m8 : List (Int × Int)) (h8 : Int), E_ = [(0, .int .i64 slots), (1, .slice C ops.length c), (5, .pointer (some ⟨p32, 0, none⟩)), (7, .pointer (some ⟨g64, 0, none⟩)), (9, .pointer (some ⟨g96, 0, none⟩)), (10, .slice A6 e90.n c6), (11, .bool ok8), (59, .slice C ops.length c), (60, .int .i64 (ops.length : Int)), (61, .int .i64 (i : Int))] ∧ Cx w [] w_ [(g64, .cells #[.slice A8 n8 c8] 49), (g96, .cells #[.int .i64 e90.kind, .int .i64 e90.at_, .slice e90.A e90.n e90.c] 36)] [F8, blk (.slice A8 n8 c8), blk (.slice A6 (e90.n + 1) c6)] ∧ World.ownsRow w_ 0 3 1 (.slice A6 e90.n c6) e90.n (e90.ks.flatMap (Go.Tw.encI .i64)) ∧ World.ownsRow w_ 0 3 1 (.slice A6 (e90.n + 1) c6) (e90.n + 1) ((e90.ks ++ [-77]).flatMap (Go.Tw.encI .i64)) ∧ whAt w_ F8 p32 (Int.toNat slots) m8 h8 ∧ World.ownsRow w_ 0 75 2 (.slice A8 n8 c8) n8 (m8.flatMap tmC) ∧ (ok8 = true ∧ handOk m8 h8 ∧ m8.length ≤ totW (ops.take (i + 1)))) (fun K293 hK294 => ?_) ?_
            · skip
              refine WC.seq (fun K298 hK299 => ?_)
              refine WC.region ?_
              refine WL.runs 1 [(79, .pointer (some ⟨g96, 0, none⟩))] (fun _ => by kernel_rfl) ?_
              refine WL.load 3 (.pointer (some ⟨g96, 0, none⟩)) (.int .i64 e90.kind) 80 (by kernel_rfl) (run_ld (hC113.get 1 rfl) rfl) ?_
              rcases (show (e90.at_ < 0 ∨ 1099511627776 < e90.at_) ∨ (0 ≤ e90.at_ ∧ e90.at_ ≤ 1099511627776) by omega) with hb300 | hb300
              · skip
                refine WL.done rfl ?_
                refine QX.then_normal (hK299 _ _ ?_)
                refine WC.block ?_
                refine WC.seq (fun K301 hK302 => ?_)
                refine WC.region ?_
                refine WL.runs 2 [(90, .bool (e90.kind == 0)), (91, .bool (e90.kind == 0))] (fun _ => by kernel_rfl) ?_
                refine WL.done rfl ?_
                refine QX.then_normal (hK302 _ _ ?_)
                refine WC.test_at 90 (e90.kind == 0) rfl (fun t303b => ?_) (fun t303b => ?_)
                · -- e90.kind = 0: true
                  have t303 : e90.kind = 0 := by simpa using t303b
                  refine WC.cond_true rfl ?_
                  refine WC.drawC hC113 (F5 ++ (g64 :: blk (.slice A5 n5 c5))) (by kernel_rfl) (fun w304 hF305 hC306 hS307 => ?_)
                  have hf308 := whAt_fr whl39_m111 hF305 (by simp)
                  have ho309 := own_fr row_m111 hF305 (by simp)
                  have ho310 := own_fr hcx6 hF305 (by simp)
                  have ho311 := own_fr hcf6 hF305 (by simp)
                  refine WD.pure (NoPanic.block (NoPanic.then (NoPanic.block (NoPanic.then (NoPanic.then (NoPanic.block (NoPanic.then hN))))))) 0 92 (.pointer (some ⟨p32, 0, none⟩)) (by kernel_rfl) (fun _ => by kernel_rfl) hS307 ?_
                  refine WD.pure (NoPanic.block (NoPanic.then (NoPanic.block (NoPanic.then (NoPanic.then (NoPanic.block (NoPanic.then hN))))))) 1 93 (.pointer (some ⟨g96, 1, none⟩)) (by kernel_rfl) (fun _ => by kernel_rfl) hS307 ?_
                  refine WD.pure (NoPanic.block (NoPanic.then (NoPanic.block (NoPanic.then (NoPanic.then (NoPanic.block (NoPanic.then hN))))))) 3 95 (.slice A6 e90.n c6) (by kernel_rfl) (fun _ => by kernel_rfl) hS307 ?_
                  refine WD.pure (NoPanic.block (NoPanic.then (NoPanic.block (NoPanic.then (NoPanic.then (NoPanic.block (NoPanic.then hN))))))) 6 98 (.pointer (some ⟨g64, 0, none⟩)) (by kernel_rfl) (fun _ => by kernel_rfl) hS307 ?_
                  refine WD.pure (NoPanic.block (NoPanic.then (NoPanic.block (NoPanic.then (NoPanic.then (NoPanic.block (NoPanic.then hN))))))) 7 99 (.pointer (some ⟨g96, 1, none⟩)) (by kernel_rfl) (fun _ => by kernel_rfl) hS307 ?_
                  refine WD.pure (NoPanic.block (NoPanic.then (NoPanic.block (NoPanic.then (NoPanic.then (NoPanic.block (NoPanic.then hN))))))) 9 101 (.pointer (some ⟨g96, 2, none⟩)) (by kernel_rfl) (fun _ => by kernel_rfl) hS307 ?_
                  refine WD.load (NoPanic.block (NoPanic.then (NoPanic.block (NoPanic.then (NoPanic.then (NoPanic.block (NoPanic.then hN))))))) 2 3 (.pointer (some ⟨g96, 1, none⟩)) (.int .i64 e90.at_) 94 (by kernel_rfl) (by kernel_rfl) (fun _ hS_ => run_ld (Fr.has hS_ (hC306.get 1 rfl) (fun h_ => (List.mem_append.1 h_).elim (hC306.notin 0 1 rfl rfl) (fun h2_ => (List.mem_cons.1 h2_).elim (hC306.ne 1 0 rfl rfl (by decide)) (hC306.notin 1 1 rfl rfl)))) rfl) hS307 ?_
                  refine WD.load (NoPanic.block (NoPanic.then (NoPanic.block (NoPanic.then (NoPanic.then (NoPanic.block (NoPanic.then hN))))))) 8 3 (.pointer (some ⟨g96, 1, none⟩)) (.int .i64 e90.at_) 100 (by kernel_rfl) (by kernel_rfl) (fun _ hS_ => run_ld (Fr.has hS_ (hC306.get 1 rfl) (fun h_ => (List.mem_append.1 h_).elim (hC306.notin 0 1 rfl rfl) (fun h2_ => (List.mem_cons.1 h2_).elim (hC306.ne 1 0 rfl rfl (by decide)) (hC306.notin 1 1 rfl rfl)))) rfl) hS307 ?_
                  refine WD.load (NoPanic.block (NoPanic.then (NoPanic.block (NoPanic.then (NoPanic.then (NoPanic.block (NoPanic.then hN))))))) 10 22 (.pointer (some ⟨g96, 2, none⟩)) (.slice e90.A e90.n e90.c) 102 (by kernel_rfl) (by kernel_rfl) (fun _ hS_ => run_ld (Fr.has hS_ (hC306.get 1 rfl) (fun h_ => (List.mem_append.1 h_).elim (hC306.notin 0 1 rfl rfl) (fun h2_ => (List.mem_cons.1 h2_).elim (hC306.ne 1 0 rfl rfl (by decide)) (hC306.notin 1 1 rfl rfl)))) rfl) hS307 ?_
                  refine WD.call 4 (by kernel_rfl) rfl rfl rfl rfl rfl (by kernel_rfl) (Set_no p32 e90.at_ A6 e90.n c6 w304 (hb300)) ?_
                  rintro _ w313 ⟨rfl, hF312⟩
                  have hS315 := hS307.trans hF312 (by simp)
                  refine ⟨_, rfl, hS315, ?_⟩
                  have hC314 := hC306.call hF312
                  have hf316 := whAt_fr hf308 hF312 (by simp)
                  have ho317 := own_fr ho309 hF312 (by simp)
                  have ho318 := own_fr ho310 hF312 (by simp)
                  have ho319 := own_fr ho311 hF312 (by simp)
                  refine WD.call 5 (by kernel_rfl) rfl rfl rfl rfl rfl (by kernel_rfl) (Num_some 4 w313 (by decide)) ?_
                  rintro _ w321 ⟨rfl, hF320⟩
                  have hS323 := hS315.trans hF320 (by simp)
                  refine ⟨_, rfl, hS323, ?_⟩
                  have hC322 := hC314.call hF320
                  have hf324 := whAt_fr hf316 hF320 (by simp)
                  have ho325 := own_fr ho317 hF320 (by simp)
                  have ho326 := own_fr ho318 hF320 (by simp)
                  have ho327 := own_fr ho319 hF320 (by simp)
                  refine WD.call 11 (by kernel_rfl) rfl rfl rfl rfl rfl (by kernel_rfl) (RSet_no g64 e90.at_ e90.A e90.n e90.c w321 hb300) ?_
                  rintro _ w329 ⟨rfl, hF328⟩
                  have hS331 := hS323.trans hF328 (by simp)
                  refine ⟨_, rfl, hS331, ?_⟩
                  have hC330 := hC322.call hF328
                  have hf332 := whAt_fr hf324 hF328 (by simp)
                  have ho333 := own_fr ho325 hF328 (by simp)
                  have ho334 := own_fr ho326 hF328 (by simp)
                  have ho335 := own_fr ho327 hF328 (by simp)
                  refine WD.pure (NoPanic.block (NoPanic.then (NoPanic.block (NoPanic.then (NoPanic.then (NoPanic.block (NoPanic.then hN))))))) 12 104 (.bool true) (by kernel_rfl) (fun _ => by kernel_rfl) hS331 ?_
                  refine WD.pure (NoPanic.block (NoPanic.then (NoPanic.block (NoPanic.then (NoPanic.then (NoPanic.block (NoPanic.then hN))))))) 13 11 (.bool true) (by kernel_rfl) (fun _ => by kernel_rfl) hS331 ?_
                  refine WD.done (by kernel_rfl) ?_
                  refine QX.block_normal ?_
                  refine QX.then_normal ?_
                  have hC336 := hC330.pickM [0, 1] [0, 1, 2] (by decide) rfl rfl
                  exact fun a_ ha_ => hK294 _ _ ⟨true, F5, A5, n5, c5, m5, h5, rfl, hC336, ho334, ho335, hf332, ho333, rfl, hhd, by rw [totW_take he91]; omega⟩ a_ (ha_.weaken (sub_of ⟨rfl, rfl, rfl, rfl, rfl, rfl, rfl, rfl, rfl, rfl, trivial⟩))
                · -- e90.kind = 0: false
                  have t303 : ¬ (e90.kind = 0) := by simpa using t303b
                  refine WC.cond_false rfl ?_
                  refine WC.seq (fun K337 hK338 => ?_)
                  refine WC.region ?_
                  refine WL.runs 2 [(105, .bool (e90.kind == 1)), (106, .bool (e90.kind == 1))] (fun _ => by kernel_rfl) ?_
                  refine WL.done rfl ?_
                  refine QX.then_normal (hK338 _ _ ?_)
                  refine WC.test_at 105 (e90.kind == 1) rfl (fun t339b => ?_) (fun t339b => ?_)
                  · -- e90.kind = 1: true
                    have t339 : e90.kind = 1 := by simpa using t339b
                    refine WC.cond_true rfl ?_
                    refine WC.drawC hC113 (F5 ++ (g64 :: blk (.slice A5 n5 c5))) (by kernel_rfl) (fun w340 hF341 hC342 hS343 => ?_)
                    have hf344 := whAt_fr whl39_m111 hF341 (by simp)
                    have ho345 := own_fr row_m111 hF341 (by simp)
                    have ho346 := own_fr hcx6 hF341 (by simp)
                    have ho347 := own_fr hcf6 hF341 (by simp)
                    refine WD.pure (NoPanic.block (NoPanic.then (NoPanic.block (NoPanic.then (NoPanic.then (NoPanic.block (NoPanic.then hN))))))) 0 107 (.pointer (some ⟨p32, 0, none⟩)) (by kernel_rfl) (fun _ => by kernel_rfl) hS343 ?_
                    refine WD.pure (NoPanic.block (NoPanic.then (NoPanic.block (NoPanic.then (NoPanic.then (NoPanic.block (NoPanic.then hN))))))) 1 108 (.slice A6 e90.n c6) (by kernel_rfl) (fun _ => by kernel_rfl) hS343 ?_
                    refine WD.pure (NoPanic.block (NoPanic.then (NoPanic.block (NoPanic.then (NoPanic.then (NoPanic.block (NoPanic.then hN))))))) 3 110 (.pointer (some ⟨g64, 0, none⟩)) (by kernel_rfl) (fun _ => by kernel_rfl) hS343 ?_
                    refine WD.pure (NoPanic.block (NoPanic.then (NoPanic.block (NoPanic.then (NoPanic.then (NoPanic.block (NoPanic.then hN))))))) 4 111 (.pointer (some ⟨g96, 2, none⟩)) (by kernel_rfl) (fun _ => by kernel_rfl) hS343 ?_
                    refine WD.load (NoPanic.block (NoPanic.then (NoPanic.block (NoPanic.then (NoPanic.then (NoPanic.block (NoPanic.then hN))))))) 5 22 (.pointer (some ⟨g96, 2, none⟩)) (.slice e90.A e90.n e90.c) 112 (by kernel_rfl) (by kernel_rfl) (fun _ hS_ => run_ld (Fr.has hS_ (hC342.get 1 rfl) (fun h_ => (List.mem_append.1 h_).elim (hC342.notin 0 1 rfl rfl) (fun h2_ => (List.mem_cons.1 h2_).elim (hC342.ne 1 0 rfl rfl (by decide)) (hC342.notin 1 1 rfl rfl)))) rfl) hS343 ?_
                    refine WD.call 2 (by kernel_rfl) rfl rfl rfl rfl rfl (by kernel_rfl) (Cancel_n F5 p32 (Int.toNat slots) m5 h5 A6 e90.n c6 e90.ks w340 hf344 (own_rd ho346 (Go.Tw.encI_len _) (by decide)) (own_count (Go.Tw.encI_len _) (by decide) ho346) (by omega) (fun b_ off_ e_ _ hx_ => hC342.disj 2 0 rfl rfl (by decide) b_ (blk_in e_) hx_)) ?_
                    rintro _ w349 ⟨F352, rfl, hF348, hT351, hsub353⟩
                    have hT351' : whAt w349 F352 p32 (Int.toNat slots) (canL m5 e90.ks) h5 := hT351
                    have hC350 := hC342.callF 0 rfl hF348 hsub353 (whAt_lt hT351')
                    have hS354 := hS343.trans hF348 (fun x_ hx_ => .inl (List.mem_append.2 (.inl hx_)))
                    refine ⟨_, rfl, hS354, ?_⟩
                    have ho355 := own_fr ho345 hF348 (hC342.disj 1 0 rfl rfl (by decide))
                    have ho356 := own_fr ho346 hF348 (blk_al (n1 := (e90.n + 1)) (c1 := c6) (hC342.disj 2 0 rfl rfl (by decide)))
                    have ho357 := own_fr ho347 hF348 (hC342.disj 2 0 rfl rfl (by decide))
                    have hrf358 : rfAt w349 (g64 :: blk (.slice A5 n5 c5)) g64 m5 := rf_mk hC350 0 1 rfl rfl ho355
                    have hC359 := hC350.toF1 0 1 rfl rfl
                    refine WD.call 6 (by kernel_rfl) rfl rfl rfl rfl rfl (by kernel_rfl) (RCancel_n (g64 :: blk (.slice A5 n5 c5)) g64 m5 e90.A e90.n e90.c e90.ks w349 hrf358 hnd_ (by omega) (Rd.fr hop_e90.row hC359.fr) hop_e90.len (by omega) (fun b_ off_ e_ n_ hx_ => absurd (rd_lt hop_e90.row (fun _ => by simp [Go.Tw.encI_len]) e_ n_) (Nat.not_lt.2 ((hC359.ownF _ (List.mem_of_getElem? (show _[1]? = some (g64 :: blk (.slice A5 n5 c5)) from rfl)) b_ hx_).resolve_left (fun h_ => nomatch h_))))) ?_
                    rintro _ w361 ⟨F364, rfl, hF360, hT363, hsub365⟩
                    have hT363' : rfAt w361 F364 g64 (canL m5 e90.ks) := hT363
                    have hC362 := hC359.callF 1 rfl hF360 hsub365 (rfAt_lt hT363)
                    have hS366 := hS354.trans hF360 (fun x_ hx_ => .inl (List.mem_append.2 (.inr hx_)))
                    refine ⟨_, rfl, hS366, ?_⟩
                    have hf367 := whAt_fr hT351' hF360 (hC359.disj 0 1 rfl rfl (by decide))
                    have ho368 := own_fr ho356 hF360 (blk_al (n1 := (e90.n + 1)) (c1 := c6) (hC359.disj 2 1 rfl rfl (by decide)))
                    have ho369 := own_fr ho357 hF360 (hC359.disj 2 1 rfl rfl (by decide))
                    obtain ⟨A370, c371, hp372, ho373, rfl, hn374⟩ := hT363'
                    have hC375 := hC362.unF1 1 rfl hp372 hn374
                    refine WD.pure (NoPanic.block (NoPanic.then (NoPanic.block (NoPanic.then (NoPanic.then (NoPanic.block (NoPanic.then hN))))))) 7 114 (.bool ((canN m5 e90.ks : Int) == (canN m5 e90.ks : Int))) (by kernel_rfl) (fun _ => by kernel_rfl) hS366 ?_
                    refine WD.pure (NoPanic.block (NoPanic.then (NoPanic.block (NoPanic.then (NoPanic.then (NoPanic.block (NoPanic.then hN))))))) 8 11 (.bool ((canN m5 e90.ks : Int) == (canN m5 e90.ks : Int))) (by kernel_rfl) (fun _ => by kernel_rfl) hS366 ?_
                    refine WD.done (by kernel_rfl) ?_
                    refine QX.block_normal ?_
                    refine QX.then_normal ?_
                    have hC376 := hC375.pickM [1, 0] [0, 1, 2] (by decide) rfl rfl
                    exact fun a_ ha_ => hK294 _ _ ⟨((canN m5 e90.ks : Int) == (canN m5 e90.ks : Int)), F352, A370, (canL m5 e90.ks).length, c371, canL m5 e90.ks, h5, rfl, hC376, ho368, ho369, hf367, ho373, by first | rfl | (simp; done), hhd.can hnd_, by have q_ := canL_len2 m5 e90.ks; rw [totW_take he91]; omega⟩ a_ (ha_.weaken (sub_of ⟨rfl, rfl, rfl, rfl, rfl, rfl, rfl, rfl, rfl, rfl, trivial⟩))
                  · -- e90.kind = 1: false
                    have t339 : ¬ (e90.kind = 1) := by simpa using t339b
                    refine WC.cond_false rfl ?_
                    refine WC.seq (fun K377 hK378 => ?_)
                    refine WC.region ?_
                    refine WL.runs 2 [(115, .bool (e90.kind == 2)), (116, .bool (e90.kind == 2))] (fun _ => by kernel_rfl) ?_
                    refine WL.done rfl ?_
                    refine QX.then_normal (hK378 _ _ ?_)
                    refine WC.test_at 115 (e90.kind == 2) rfl (fun t379b => ?_) (fun t379b => ?_)
                    · -- e90.kind = 2: true
                      have t379 : e90.kind = 2 := by simpa using t379b
                      refine WC.cond_true rfl ?_
                      refine WC.seq (fun K380 hK381 => ?_)
                      refine WC.region ?_
                      refine WL.runs 1 [(12, .int .i64 0)] (fun _ => by kernel_rfl) ?_
                      refine WL.done rfl ?_
                      refine QX.then_normal (hK381 _ _ ?_)
                      refine WC.seq (fun K382 hK383 => ?_)
                      refine WC.seq (fun K384 hK385 => ?_)
                      refine WC.region ?_
                      refine WL.runs 1 [(117, .pointer (some ⟨g96, 2, none⟩))] (fun _ => by kernel_rfl) ?_
                      refine WL.load 22 (.pointer (some ⟨g96, 2, none⟩)) (.slice e90.A e90.n e90.c) 118 (by kernel_rfl) (run_ld (hC113.get 1 rfl) rfl) ?_
                      refine WL.runs 2 [(120, .bool (decide ((e90.n : Int) > 0))), (119, .int .i64 (e90.n : Int))] (fun _ => by kernel_rfl) ?_
                      refine WL.done rfl ?_
                      refine QX.then_normal (hK385 _ _ ?_)
                      refine WC.test_at 120 (decide ((e90.n : Int) > 0)) rfl (fun t386b => ?_) (fun t386b => ?_)
                      · -- (e90.n : Int) > 0: true
                        have t386 : (0 : Int) < (e90.n : Int) := by have q_ := of_decide_eq_true t386b; omega
                        refine WC.cond_true rfl ?_
                        refine WC.region ?_
                        refine WL.runs 1 [(121, .pointer (some ⟨g96, 2, none⟩))] (fun _ => by kernel_rfl) ?_
                        refine WL.load 22 (.pointer (some ⟨g96, 2, none⟩)) (.slice e90.A e90.n e90.c) 122 (by kernel_rfl) (run_ld (hC113.get 1 rfl) rfl) ?_
                        obtain ⟨e387, he388⟩ := get_some (xs := e90.ks) (i := 0) (by omega)
                        obtain ⟨b389, o391, hA390, hc392⟩ := hop_e90.row.at_ _ _ he388
                        refine WL.index e90.A e90.n e90.c 123 .i64 0 b389 o391 0 1 (by kernel_rfl) hA390 (by omega) (by omega) (o391 + 0) (by first | (simp; done) | omega) ?_
                        refine WL.load 3 (.pointer (some ⟨b389, o391 + 0, none⟩)) (.int .i64 e387) 124 (by kernel_rfl) (run_load1 rfl (by simpa [Nat.add_assoc] using hC113.fr.cell (hc392 0 _ rfl) (by simp))) ?_
                        refine WL.runs 1 [(12, .int .i64 e387)] (fun _ => by kernel_rfl) ?_
                        refine WL.done rfl ?_
                        refine QX.then_normal (hK383 _ _ ?_)
                        refine WC.seq (fun K393 hK394 => ?_)
                        refine WC.region ?_
                        refine WL.runs 2 [(127, .int .i64 e387), (126, .pointer (some ⟨p32, 0, none⟩))] (fun _ => by kernel_rfl) ?_
                        refine WL.call rfl rfl rfl rfl rfl (by kernel_rfl) (At_ct F5 p32 (Int.toNat slots) m5 h5 e387 w112 whl39_m111) ?_
                        rintro _ w396 ⟨rfl, hF395⟩
                        refine ⟨_, rfl, ?_⟩
                        have hC397 := hC113.call hF395
                        have hf398 := whAt_fr whl39_m111 hF395 (by simp)
                        have ho399 := own_fr row_m111 hF395 (by simp)
                        have ho400 := own_fr hcx6 hF395 (by simp)
                        have ho401 := own_fr hcf6 hF395 (by simp)
                        refine WL.runs 5 [(14, .bool ((lookL m5 e387).isSome)), (13, .int .i64 ((lookL m5 e387).getD 0)), (130, .bool ((lookL m5 e387).isSome)), (129, .int .i64 ((lookL m5 e387).getD 0)), (125, .tuple #[.int .i64 ((lookL m5 e387).getD 0), .bool ((lookL m5 e387).isSome)])] (fun _ => by kernel_rfl) ?_
                        refine WL.done rfl ?_
                        refine QX.then_normal (hK394 _ _ ?_)
                        refine WC.seq (fun K402 hK403 => ?_)
                        refine WC.region ?_
                        refine WL.runs 2 [(133, .int .i64 e387), (132, .pointer (some ⟨g64, 0, none⟩))] (fun _ => by kernel_rfl) ?_
                        refine WL.call rfl rfl rfl rfl rfl (by kernel_rfl) (RAt_ct _ g64 m5 e387 w396 (rf_mk hC397 0 1 rfl rfl ho399)) ?_
                        rintro _ w405 ⟨rfl, hF404⟩
                        refine ⟨_, rfl, ?_⟩
                        have hC406 := hC397.call hF404
                        have hf407 := whAt_fr hf398 hF404 (by simp)
                        have ho408 := own_fr ho399 hF404 (by simp)
                        have ho409 := own_fr ho400 hF404 (by simp)
                        have ho410 := own_fr ho401 hF404 (by simp)
                        refine WL.runs 5 [(16, .bool ((lookL m5 e387).isSome)), (15, .int .i64 ((lookL m5 e387).getD 0)), (136, .bool ((lookL m5 e387).isSome)), (135, .int .i64 ((lookL m5 e387).getD 0)), (131, .tuple #[.int .i64 ((lookL m5 e387).getD 0), .bool ((lookL m5 e387).isSome)])] (fun _ => by kernel_rfl) ?_
                        refine WL.done rfl ?_
                        refine QX.then_normal (hK403 _ _ ?_)
                        refine WC.region ?_
                        refine WL.runs 4 [(140, .bool (((lookL m5 e387).getD 0) == ((lookL m5 e387).getD 0))), (139, .bool (((lookL m5 e387).getD 0) == ((lookL m5 e387).getD 0))), (138, .int .i64 ((lookL m5 e387).getD 0)), (137, .int .i64 ((lookL m5 e387).getD 0))] (fun _ => by kernel_rfl) ?_
                        refine WL.know 140 (.bool (((lookL m5 e387).getD 0) == ((lookL m5 e387).getD 0))) (.bool true) rfl (congrArg Value.bool (by first | rfl | (simp; done) | decide)) ?_
                        refine WL.runs 5 [(11, .bool (((lookL m5 e387).isSome) == ((lookL m5 e387).isSome))), (144, .bool (((lookL m5 e387).isSome) == ((lookL m5 e387).isSome))), (143, .bool (((lookL m5 e387).isSome) == ((lookL m5 e387).isSome))), (142, .bool ((lookL m5 e387).isSome)), (141, .bool ((lookL m5 e387).isSome))] (fun _ => by kernel_rfl) ?_
                        refine WL.done rfl ?_
                        refine QX.block_normal ?_
                        refine QX.then_normal ?_
                        have hC411 := hC406.pickM [0, 1] [0, 1, 2] (by decide) rfl rfl
                        exact fun a_ ha_ => hK294 _ _ ⟨(((lookL m5 e387).isSome) == ((lookL m5 e387).isSome)), F5, A5, n5, c5, m5, h5, rfl, hC411, ho409, ho410, hf407, ho408, by first | rfl | (simp; done), hhd, by rw [totW_take he91]; omega⟩ a_ (ha_.weaken (sub_of ⟨rfl, rfl, rfl, rfl, rfl, rfl, rfl, rfl, rfl, rfl, trivial⟩))
                      · -- (e90.n : Int) > 0: false
                        have t386 : (e90.n : Int) ≤ 0 := by have q_ := of_decide_eq_false t386b; omega
                        refine WC.cond_false rfl ?_
                        refine WC.skip ?_
                        refine QX.then_normal (hK383 _ _ ?_)
                        refine WC.seq (fun K412 hK413 => ?_)
                        refine WC.region ?_
                        refine WL.runs 2 [(127, .int .i64 0), (126, .pointer (some ⟨p32, 0, none⟩))] (fun _ => by kernel_rfl) ?_
                        refine WL.call rfl rfl rfl rfl rfl (by kernel_rfl) (At_ct F5 p32 (Int.toNat slots) m5 h5 0 w112 whl39_m111) ?_
                        rintro _ w415 ⟨rfl, hF414⟩
                        refine ⟨_, rfl, ?_⟩
                        have hC416 := hC113.call hF414
                        have hf417 := whAt_fr whl39_m111 hF414 (by simp)
                        have ho418 := own_fr row_m111 hF414 (by simp)
                        have ho419 := own_fr hcx6 hF414 (by simp)
                        have ho420 := own_fr hcf6 hF414 (by simp)
                        refine WL.runs 5 [(14, .bool ((lookL m5 0).isSome)), (13, .int .i64 ((lookL m5 0).getD 0)), (130, .bool ((lookL m5 0).isSome)), (129, .int .i64 ((lookL m5 0).getD 0)), (125, .tuple #[.int .i64 ((lookL m5 0).getD 0), .bool ((lookL m5 0).isSome)])] (fun _ => by kernel_rfl) ?_
                        refine WL.done rfl ?_
                        refine QX.then_normal (hK413 _ _ ?_)
                        refine WC.seq (fun K421 hK422 => ?_)
                        refine WC.region ?_
                        refine WL.runs 2 [(133, .int .i64 0), (132, .pointer (some ⟨g64, 0, none⟩))] (fun _ => by kernel_rfl) ?_
                        refine WL.call rfl rfl rfl rfl rfl (by kernel_rfl) (RAt_ct _ g64 m5 0 w415 (rf_mk hC416 0 1 rfl rfl ho418)) ?_
                        rintro _ w424 ⟨rfl, hF423⟩
                        refine ⟨_, rfl, ?_⟩
                        have hC425 := hC416.call hF423
                        have hf426 := whAt_fr hf417 hF423 (by simp)
                        have ho427 := own_fr ho418 hF423 (by simp)
                        have ho428 := own_fr ho419 hF423 (by simp)
                        have ho429 := own_fr ho420 hF423 (by simp)
                        refine WL.runs 5 [(16, .bool ((lookL m5 0).isSome)), (15, .int .i64 ((lookL m5 0).getD 0)), (136, .bool ((lookL m5 0).isSome)), (135, .int .i64 ((lookL m5 0).getD 0)), (131, .tuple #[.int .i64 ((lookL m5 0).getD 0), .bool ((lookL m5 0).isSome)])] (fun _ => by kernel_rfl) ?_
                        refine WL.done rfl ?_
                        refine QX.then_normal (hK422 _ _ ?_)
                        refine WC.region ?_
                        refine WL.runs 4 [(140, .bool (((lookL m5 0).getD 0) == ((lookL m5 0).getD 0))), (139, .bool (((lookL m5 0).getD 0) == ((lookL m5 0).getD 0))), (138, .int .i64 ((lookL m5 0).getD 0)), (137, .int .i64 ((lookL m5 0).getD 0))] (fun _ => by kernel_rfl) ?_
                        refine WL.know 140 (.bool (((lookL m5 0).getD 0) == ((lookL m5 0).getD 0))) (.bool true) rfl (congrArg Value.bool (by first | rfl | (simp; done) | decide)) ?_
                        refine WL.runs 5 [(11, .bool (((lookL m5 0).isSome) == ((lookL m5 0).isSome))), (144, .bool (((lookL m5 0).isSome) == ((lookL m5 0).isSome))), (143, .bool (((lookL m5 0).isSome) == ((lookL m5 0).isSome))), (142, .bool ((lookL m5 0).isSome)), (141, .bool ((lookL m5 0).isSome))] (fun _ => by kernel_rfl) ?_
                        refine WL.done rfl ?_
                        refine QX.block_normal ?_
                        refine QX.then_normal ?_
                        have hC430 := hC425.pickM [0, 1] [0, 1, 2] (by decide) rfl rfl
                        exact fun a_ ha_ => hK294 _ _ ⟨(((lookL m5 0).isSome) == ((lookL m5 0).isSome)), F5, A5, n5, c5, m5, h5, rfl, hC430, ho428, ho429, hf426, ho427, by first | rfl | (simp; done), hhd, by rw [totW_take he91]; omega⟩ a_ (ha_.weaken (sub_of ⟨rfl, rfl, rfl, rfl, rfl, rfl, rfl, rfl, rfl, rfl, trivial⟩))
                    · -- e90.kind = 2: false
                      have t379 : ¬ (e90.kind = 2) := by simpa using t379b
                      refine WC.cond_false rfl ?_
                      refine WC.drawC hC113 (F5 ++ (g64 :: blk (.slice A5 n5 c5))) (by kernel_rfl) (fun w431 hF432 hC433 hS434 => ?_)
                      have hf435 := whAt_fr whl39_m111 hF432 (by simp)
                      have ho436 := own_fr row_m111 hF432 (by simp)
                      have ho437 := own_fr hcx6 hF432 (by simp)
                      have ho438 := own_fr hcf6 hF432 (by simp)
                      refine WD.pure (NoPanic.block (NoPanic.then (NoPanic.block (NoPanic.then (NoPanic.then (NoPanic.block (NoPanic.then hN))))))) 0 81 (.pointer (some ⟨p32, 0, none⟩)) (by kernel_rfl) (fun _ => by kernel_rfl) hS434 ?_
                      refine WD.pure (NoPanic.block (NoPanic.then (NoPanic.block (NoPanic.then (NoPanic.then (NoPanic.block (NoPanic.then hN))))))) 1 82 (.pointer (some ⟨g96, 1, none⟩)) (by kernel_rfl) (fun _ => by kernel_rfl) hS434 ?_
                      refine WD.pure (NoPanic.block (NoPanic.then (NoPanic.block (NoPanic.then (NoPanic.then (NoPanic.block (NoPanic.then hN))))))) 4 85 (.pointer (some ⟨g64, 0, none⟩)) (by kernel_rfl) (fun _ => by kernel_rfl) hS434 ?_
                      refine WD.pure (NoPanic.block (NoPanic.then (NoPanic.block (NoPanic.then (NoPanic.then (NoPanic.block (NoPanic.then hN))))))) 5 86 (.pointer (some ⟨g96, 1, none⟩)) (by kernel_rfl) (fun _ => by kernel_rfl) hS434 ?_
                      refine WD.load (NoPanic.block (NoPanic.then (NoPanic.block (NoPanic.then (NoPanic.then (NoPanic.block (NoPanic.then hN))))))) 2 3 (.pointer (some ⟨g96, 1, none⟩)) (.int .i64 e90.at_) 83 (by kernel_rfl) (by kernel_rfl) (fun _ hS_ => run_ld (Fr.has hS_ (hC433.get 1 rfl) (fun h_ => (List.mem_append.1 h_).elim (hC433.notin 0 1 rfl rfl) (fun h2_ => (List.mem_cons.1 h2_).elim (hC433.ne 1 0 rfl rfl (by decide)) (hC433.notin 1 1 rfl rfl)))) rfl) hS434 ?_
                      refine WD.load (NoPanic.block (NoPanic.then (NoPanic.block (NoPanic.then (NoPanic.then (NoPanic.block (NoPanic.then hN))))))) 6 3 (.pointer (some ⟨g96, 1, none⟩)) (.int .i64 e90.at_) 87 (by kernel_rfl) (by kernel_rfl) (fun _ hS_ => run_ld (Fr.has hS_ (hC433.get 1 rfl) (fun h_ => (List.mem_append.1 h_).elim (hC433.notin 0 1 rfl rfl) (fun h2_ => (List.mem_cons.1 h2_).elim (hC433.ne 1 0 rfl rfl (by decide)) (hC433.notin 1 1 rfl rfl)))) rfl) hS434 ?_
                      have hcl_ := canL_len2 m5 (dueK m5 e90.at_)
                      refine WD.call 3 (by kernel_rfl) rfl rfl rfl rfl rfl (by kernel_rfl) (Due_to F5 p32 (Int.toNat slots) m5 h5 e90.at_ w431 (dueK m5 e90.at_) (canL m5 (dueK m5 e90.at_)) (dueH h5 e90.at_) (rfl) (rfl) (rfl) hf435 hhd.1.1 hhd.1.2 (by omega) hhd.2 (by omega)) ?_
                      rintro _ w446 ⟨v439, F440, rfl, hF441, hT442, hsub443, ho444, hd445⟩
                      have hC447 := hC433.callFN 0 rfl hF441 hsub443 (whAt_lt hT442) (own_ge ho444) (own_lt ho444) (fun x_ hx_ h_ => hd445 x_ h_ hx_)
                      obtain ⟨A448, c449, rfl, hle450⟩ := own_form ho444
                      have ho451 := own_base (b' := 0) ho444 (fun _ _ => Nat.zero_le _)
                      have hS452 := hS434.trans hF441 (fun x_ hx_ => .inl (List.mem_append.2 (.inl hx_)))
                      refine ⟨_, rfl, hS452, ?_⟩
                      have ho453 := own_fr ho436 hF441 (hC433.disj 1 0 rfl rfl (by decide))
                      have ho454 := own_fr ho437 hF441 (blk_al (n1 := (e90.n + 1)) (c1 := c6) (hC433.disj 2 0 rfl rfl (by decide)))
                      have ho455 := own_fr ho438 hF441 (hC433.disj 2 0 rfl rfl (by decide))
                      have hrf457 : rfAt w446 (g64 :: blk (.slice A5 n5 c5)) g64 m5 := rf_mk hC447 0 1 rfl rfl ho453
                      have hC458 := hC447.toF1 0 1 rfl rfl
                      refine WD.call 7 (by kernel_rfl) rfl rfl rfl rfl rfl (by kernel_rfl) (RDue_ct (g64 :: blk (.slice A5 n5 c5)) g64 m5 e90.at_ w446 hrf457 hnd_ (by omega)) ?_
                      rintro _ w466 ⟨v459, F460, rfl, hF461, hT462, hsub463, ho464, hd465⟩
                      have hC467 := hC458.callFN 1 rfl hF461 hsub463 (rfAt_lt hT462) (own_ge ho464) (own_lt ho464) (fun x_ hx_ h_ => hd465 x_ h_ hx_)
                      obtain ⟨A468, c469, rfl, hle470⟩ := own_form ho464
                      have ho471 := own_base (b' := 0) ho464 (fun _ _ => Nat.zero_le _)
                      have hS472 := hS452.trans hF461 (fun x_ hx_ => .inl (List.mem_append.2 (.inr hx_)))
                      refine ⟨_, rfl, hS472, ?_⟩
                      have hf473 := whAt_fr hT442 hF461 (hC458.disj 0 1 rfl rfl (by decide))
                      have ho474 := own_fr ho454 hF461 (blk_al (n1 := (e90.n + 1)) (c1 := c6) (hC458.disj 2 1 rfl rfl (by decide)))
                      have ho475 := own_fr ho455 hF461 (hC458.disj 2 1 rfl rfl (by decide))
                      have ho476 := own_fr ho451 hF461 (hC458.disj 3 1 rfl rfl (by decide))
                      obtain ⟨A478, c479, hp480, ho481, rfl, hn482⟩ := hT462
                      have hC483 := hC467.unF1 1 rfl hp480 hn482
                      refine WD.call 8 (by kernel_rfl) rfl rfl rfl rfl rfl (by kernel_rfl) (Ints_n A448 A468 ((dueK m5 e90.at_).length) c449 ((dueK m5 e90.at_).length) c469 (dueK m5 e90.at_) (dueK m5 e90.at_) w466 (own_rd ho476 (Go.Tw.encI_len _) (by decide)) (own_count (Go.Tw.encI_len _) (by decide) ho476) (by rw [own_count (Go.Tw.encI_len _) (by decide) ho476]; exact own_max ho476) (own_rd ho471 (Go.Tw.encI_len _) (by decide)) (own_count (Go.Tw.encI_len _) (by decide) ho471) (by rw [own_count (Go.Tw.encI_len _) (by decide) ho471]; exact own_max ho471)) ?_
                      rintro _ w485 ⟨rfl, hF484⟩
                      have hS487 := hS472.trans hF484 (by simp)
                      refine ⟨_, rfl, hS487, ?_⟩
                      have hC486 := hC483.call hF484
                      have hf488 := whAt_fr hf473 hF484 (by simp)
                      have ho489 := own_fr ho474 hF484 (by simp)
                      have ho490 := own_fr ho475 hF484 (by simp)
                      have ho491 := own_fr ho476 hF484 (by simp)
                      have ho492 := own_fr ho471 hF484 (by simp)
                      have ho493 := own_fr ho481 hF484 (by simp)
                      refine WD.pure (NoPanic.block (NoPanic.then (NoPanic.block (NoPanic.then (NoPanic.then (NoPanic.block (NoPanic.then hN))))))) 9 11 (.bool (decide ((dueK m5 e90.at_) = (dueK m5 e90.at_)))) (by kernel_rfl) (fun _ => by kernel_rfl) hS487 ?_
                      refine WD.done (by kernel_rfl) ?_
                      refine QX.block_normal ?_
                      refine QX.then_normal ?_
                      have hC494 := hC486.pickM [1, 0] [0, 1, 2] (by decide) rfl rfl
                      exact fun a_ ha_ => hK294 _ _ ⟨(decide ((dueK m5 e90.at_) = (dueK m5 e90.at_))), F440, A478, (canL m5 (dueK m5 e90.at_)).length, c479, (canL m5 (dueK m5 e90.at_)), (dueH h5 e90.at_), rfl, hC494, ho489, ho490, hf488, ho493, by first | rfl | (simp; done), hhd.due hnd_, by have q_ := canL_len2 m5 (dueK m5 e90.at_); rw [totW_take he91]; omega⟩ a_ (ha_.weaken (sub_of ⟨rfl, rfl, rfl, rfl, rfl, rfl, rfl, rfl, rfl, rfl, trivial⟩))
              · skip
                obtain ⟨hg0_, hg1_⟩ := hb300
                refine WL.done rfl ?_
                refine QX.then_normal (hK299 _ _ ?_)
                refine WC.block ?_
                refine WC.seq (fun K495 hK496 => ?_)
                refine WC.region ?_
                refine WL.runs 2 [(90, .bool (e90.kind == 0)), (91, .bool (e90.kind == 0))] (fun _ => by kernel_rfl) ?_
                refine WL.done rfl ?_
                refine QX.then_normal (hK496 _ _ ?_)
                refine WC.test_at 90 (e90.kind == 0) rfl (fun t497b => ?_) (fun t497b => ?_)
                · -- e90.kind = 0: true
                  have t497 : e90.kind = 0 := by simpa using t497b
                  refine WC.cond_true rfl ?_
                  refine WC.drawC hC113 (F5 ++ (g64 :: blk (.slice A5 n5 c5))) (by kernel_rfl) (fun w498 hF499 hC500 hS501 => ?_)
                  have hf502 := whAt_fr whl39_m111 hF499 (by simp)
                  have ho503 := own_fr row_m111 hF499 (by simp)
                  have ho504 := own_fr hcx6 hF499 (by simp)
                  have ho505 := own_fr hcf6 hF499 (by simp)
                  refine WD.pure (NoPanic.block (NoPanic.then (NoPanic.block (NoPanic.then (NoPanic.then (NoPanic.block (NoPanic.then hN))))))) 0 92 (.pointer (some ⟨p32, 0, none⟩)) (by kernel_rfl) (fun _ => by kernel_rfl) hS501 ?_
                  refine WD.pure (NoPanic.block (NoPanic.then (NoPanic.block (NoPanic.then (NoPanic.then (NoPanic.block (NoPanic.then hN))))))) 1 93 (.pointer (some ⟨g96, 1, none⟩)) (by kernel_rfl) (fun _ => by kernel_rfl) hS501 ?_
                  refine WD.pure (NoPanic.block (NoPanic.then (NoPanic.block (NoPanic.then (NoPanic.then (NoPanic.block (NoPanic.then hN))))))) 3 95 (.slice A6 e90.n c6) (by kernel_rfl) (fun _ => by kernel_rfl) hS501 ?_
                  refine WD.pure (NoPanic.block (NoPanic.then (NoPanic.block (NoPanic.then (NoPanic.then (NoPanic.block (NoPanic.then hN))))))) 6 98 (.pointer (some ⟨g64, 0, none⟩)) (by kernel_rfl) (fun _ => by kernel_rfl) hS501 ?_
                  refine WD.pure (NoPanic.block (NoPanic.then (NoPanic.block (NoPanic.then (NoPanic.then (NoPanic.block (NoPanic.then hN))))))) 7 99 (.pointer (some ⟨g96, 1, none⟩)) (by kernel_rfl) (fun _ => by kernel_rfl) hS501 ?_
                  refine WD.pure (NoPanic.block (NoPanic.then (NoPanic.block (NoPanic.then (NoPanic.then (NoPanic.block (NoPanic.then hN))))))) 9 101 (.pointer (some ⟨g96, 2, none⟩)) (by kernel_rfl) (fun _ => by kernel_rfl) hS501 ?_
                  refine WD.load (NoPanic.block (NoPanic.then (NoPanic.block (NoPanic.then (NoPanic.then (NoPanic.block (NoPanic.then hN))))))) 2 3 (.pointer (some ⟨g96, 1, none⟩)) (.int .i64 e90.at_) 94 (by kernel_rfl) (by kernel_rfl) (fun _ hS_ => run_ld (Fr.has hS_ (hC500.get 1 rfl) (fun h_ => (List.mem_append.1 h_).elim (hC500.notin 0 1 rfl rfl) (fun h2_ => (List.mem_cons.1 h2_).elim (hC500.ne 1 0 rfl rfl (by decide)) (hC500.notin 1 1 rfl rfl)))) rfl) hS501 ?_
                  refine WD.load (NoPanic.block (NoPanic.then (NoPanic.block (NoPanic.then (NoPanic.then (NoPanic.block (NoPanic.then hN))))))) 8 3 (.pointer (some ⟨g96, 1, none⟩)) (.int .i64 e90.at_) 100 (by kernel_rfl) (by kernel_rfl) (fun _ hS_ => run_ld (Fr.has hS_ (hC500.get 1 rfl) (fun h_ => (List.mem_append.1 h_).elim (hC500.notin 0 1 rfl rfl) (fun h2_ => (List.mem_cons.1 h2_).elim (hC500.ne 1 0 rfl rfl (by decide)) (hC500.notin 1 1 rfl rfl)))) rfl) hS501 ?_
                  refine WD.load (NoPanic.block (NoPanic.then (NoPanic.block (NoPanic.then (NoPanic.then (NoPanic.block (NoPanic.then hN))))))) 10 22 (.pointer (some ⟨g96, 2, none⟩)) (.slice e90.A e90.n e90.c) 102 (by kernel_rfl) (by kernel_rfl) (fun _ hS_ => run_ld (Fr.has hS_ (hC500.get 1 rfl) (fun h_ => (List.mem_append.1 h_).elim (hC500.notin 0 1 rfl rfl) (fun h2_ => (List.mem_cons.1 h2_).elim (hC500.ne 1 0 rfl rfl (by decide)) (hC500.notin 1 1 rfl rfl)))) rfl) hS501 ?_
                  refine WD.call 4 (by kernel_rfl) rfl rfl rfl rfl rfl (by kernel_rfl) (Set_to F5 p32 (Int.toNat slots) m5 h5 e90.at_ A6 e90.n c6 e90.ks w498 (setL m5 e90.at_ e90.ks) (setH h5 e90.at_ e90.ks) (rfl) (rfl) hf502 (by omega) (by omega) (by omega) (own_rd ho504 (Go.Tw.encI_len _) (by decide)) (own_count (Go.Tw.encI_len _) (by decide) ho504) (by omega) (fun b_ off_ e_ _ hx_ => hC500.disj 2 0 rfl rfl (by decide) b_ (blk_in e_) hx_)) ?_
                  rintro _ w507 ⟨F510, rfl, hF506, hT509, hsub511⟩
                  have hT509' : whAt w507 F510 p32 (Int.toNat slots) (setL m5 e90.at_ e90.ks) (setH h5 e90.at_ e90.ks) := hT509
                  have hC508 := hC500.callF 0 rfl hF506 hsub511 (whAt_lt hT509')
                  have hS512 := hS501.trans hF506 (fun x_ hx_ => .inl (List.mem_append.2 (.inl hx_)))
                  refine ⟨_, rfl, hS512, ?_⟩
                  have ho513 := own_fr ho503 hF506 (hC500.disj 1 0 rfl rfl (by decide))
                  have ho514 := own_fr ho504 hF506 (blk_al (n1 := (e90.n + 1)) (c1 := c6) (hC500.disj 2 0 rfl rfl (by decide)))
                  have ho515 := own_fr ho505 hF506 (hC500.disj 2 0 rfl rfl (by decide))
                  refine WD.call 5 (by kernel_rfl) rfl rfl rfl rfl rfl (by kernel_rfl) (Num_nil w507) ?_
                  rintro _ w517 ⟨rfl, hF516⟩
                  have hS519 := hS512.trans hF516 (by simp)
                  refine ⟨_, rfl, hS519, ?_⟩
                  have hC518 := hC508.call hF516
                  have hf520 := whAt_fr hT509' hF516 (by simp)
                  have ho521 := own_fr ho513 hF516 (by simp)
                  have ho522 := own_fr ho514 hF516 (by simp)
                  have ho523 := own_fr ho515 hF516 (by simp)
                  have hrf524 : rfAt w517 (g64 :: blk (.slice A5 n5 c5)) g64 m5 := rf_mk hC518 0 1 rfl rfl ho521
                  have hC525 := hC518.toF1 0 1 rfl rfl
                  refine WD.call 11 (by kernel_rfl) rfl rfl rfl rfl rfl (by kernel_rfl) (RSet_n (g64 :: blk (.slice A5 n5 c5)) g64 m5 e90.at_ e90.A e90.n e90.c e90.ks w517 hrf524 hg0_ hg1_ hnd_ (by omega) (Rd.fr hop_e90.row hC525.fr) hop_e90.len (by have z_ := hop_e90.cap; omega) (fun b_ off_ e_ n_ hx_ => absurd (rd_lt hop_e90.row (fun _ => by simp [Go.Tw.encI_len]) e_ n_) (Nat.not_lt.2 ((hC525.ownF _ (List.mem_of_getElem? (show _[1]? = some (g64 :: blk (.slice A5 n5 c5)) from rfl)) b_ hx_).resolve_left (fun h_ => nomatch h_))))) ?_
                  rintro _ w527 ⟨F530, rfl, hF526, hT529, hsub531⟩
                  have hT529' : rfAt w527 F530 g64 (setL m5 e90.at_ e90.ks) := hT529
                  have hC528 := hC525.callF 1 rfl hF526 hsub531 (rfAt_lt hT529)
                  have hS532 := hS519.trans hF526 (fun x_ hx_ => .inl (List.mem_append.2 (.inr hx_)))
                  refine ⟨_, rfl, hS532, ?_⟩
                  have hf533 := whAt_fr hf520 hF526 (hC525.disj 0 1 rfl rfl (by decide))
                  have ho534 := own_fr ho522 hF526 (blk_al (n1 := (e90.n + 1)) (c1 := c6) (hC525.disj 2 1 rfl rfl (by decide)))
                  have ho535 := own_fr ho523 hF526 (hC525.disj 2 1 rfl rfl (by decide))
                  obtain ⟨A536, c537, hp538, ho539, rfl, hn540⟩ := hT529'
                  have hC541 := hC528.unF1 1 rfl hp538 hn540
                  refine WD.pure (NoPanic.block (NoPanic.then (NoPanic.block (NoPanic.then (NoPanic.then (NoPanic.block (NoPanic.then hN))))))) 12 104 (.bool true) (by kernel_rfl) (fun _ => by kernel_rfl) hS532 ?_
                  refine WD.pure (NoPanic.block (NoPanic.then (NoPanic.block (NoPanic.then (NoPanic.then (NoPanic.block (NoPanic.then hN))))))) 13 11 (.bool true) (by kernel_rfl) (fun _ => by kernel_rfl) hS532 ?_
                  refine WD.done (by kernel_rfl) ?_
                  refine QX.block_normal ?_
                  refine QX.then_normal ?_
                  have hC542 := hC541.pickM [1, 0] [0, 1, 2] (by decide) rfl rfl
                  exact fun a_ ha_ => hK294 _ _ ⟨true, F510, A536, (setL m5 e90.at_ e90.ks).length, c537, setL m5 e90.at_ e90.ks, setH h5 e90.at_ e90.ks, rfl, hC542, ho534, ho535, hf533, ho539, rfl, hhd.set hg0_, by have q_ := setL_len (m := m5) (at_ := e90.at_) e90.ks; rw [totW_take he91]; omega⟩ a_ (ha_.weaken (sub_of ⟨rfl, rfl, rfl, rfl, rfl, rfl, rfl, rfl, rfl, rfl, trivial⟩))
                · -- e90.kind = 0: false
                  have t497 : ¬ (e90.kind = 0) := by simpa using t497b
                  refine WC.cond_false rfl ?_
                  refine WC.seq (fun K543 hK544 => ?_)
                  refine WC.region ?_
                  refine WL.runs 2 [(105, .bool (e90.kind == 1)), (106, .bool (e90.kind == 1))] (fun _ => by kernel_rfl) ?_
                  refine WL.done rfl ?_
                  refine QX.then_normal (hK544 _ _ ?_)
                  refine WC.test_at 105 (e90.kind == 1) rfl (fun t545b => ?_) (fun t545b => ?_)
                  · -- e90.kind = 1: true
                    have t545 : e90.kind = 1 := by simpa using t545b
                    refine WC.cond_true rfl ?_
                    refine WC.drawC hC113 (F5 ++ (g64 :: blk (.slice A5 n5 c5))) (by kernel_rfl) (fun w546 hF547 hC548 hS549 => ?_)
                    have hf550 := whAt_fr whl39_m111 hF547 (by simp)
                    have ho551 := own_fr row_m111 hF547 (by simp)
                    have ho552 := own_fr hcx6 hF547 (by simp)
                    have ho553 := own_fr hcf6 hF547 (by simp)
                    refine WD.pure (NoPanic.block (NoPanic.then (NoPanic.block (NoPanic.then (NoPanic.then (NoPanic.block (NoPanic.then hN))))))) 0 107 (.pointer (some ⟨p32, 0, none⟩)) (by kernel_rfl) (fun _ => by kernel_rfl) hS549 ?_
                    refine WD.pure (NoPanic.block (NoPanic.then (NoPanic.block (NoPanic.then (NoPanic.then (NoPanic.block (NoPanic.then hN))))))) 1 108 (.slice A6 e90.n c6) (by kernel_rfl) (fun _ => by kernel_rfl) hS549 ?_
                    refine WD.pure (NoPanic.block (NoPanic.then (NoPanic.block (NoPanic.then (NoPanic.then (NoPanic.block (NoPanic.then hN))))))) 3 110 (.pointer (some ⟨g64, 0, none⟩)) (by kernel_rfl) (fun _ => by kernel_rfl) hS549 ?_
                    refine WD.pure (NoPanic.block (NoPanic.then (NoPanic.block (NoPanic.then (NoPanic.then (NoPanic.block (NoPanic.then hN))))))) 4 111 (.pointer (some ⟨g96, 2, none⟩)) (by kernel_rfl) (fun _ => by kernel_rfl) hS549 ?_
                    refine WD.load (NoPanic.block (NoPanic.then (NoPanic.block (NoPanic.then (NoPanic.then (NoPanic.block (NoPanic.then hN))))))) 5 22 (.pointer (some ⟨g96, 2, none⟩)) (.slice e90.A e90.n e90.c) 112 (by kernel_rfl) (by kernel_rfl) (fun _ hS_ => run_ld (Fr.has hS_ (hC548.get 1 rfl) (fun h_ => (List.mem_append.1 h_).elim (hC548.notin 0 1 rfl rfl) (fun h2_ => (List.mem_cons.1 h2_).elim (hC548.ne 1 0 rfl rfl (by decide)) (hC548.notin 1 1 rfl rfl)))) rfl) hS549 ?_
                    refine WD.call 2 (by kernel_rfl) rfl rfl rfl rfl rfl (by kernel_rfl) (Cancel_n F5 p32 (Int.toNat slots) m5 h5 A6 e90.n c6 e90.ks w546 hf550 (own_rd ho552 (Go.Tw.encI_len _) (by decide)) (own_count (Go.Tw.encI_len _) (by decide) ho552) (by omega) (fun b_ off_ e_ _ hx_ => hC548.disj 2 0 rfl rfl (by decide) b_ (blk_in e_) hx_)) ?_
                    rintro _ w555 ⟨F558, rfl, hF554, hT557, hsub559⟩
                    have hT557' : whAt w555 F558 p32 (Int.toNat slots) (canL m5 e90.ks) h5 := hT557
                    have hC556 := hC548.callF 0 rfl hF554 hsub559 (whAt_lt hT557')
                    have hS560 := hS549.trans hF554 (fun x_ hx_ => .inl (List.mem_append.2 (.inl hx_)))
                    refine ⟨_, rfl, hS560, ?_⟩
                    have ho561 := own_fr ho551 hF554 (hC548.disj 1 0 rfl rfl (by decide))
                    have ho562 := own_fr ho552 hF554 (blk_al (n1 := (e90.n + 1)) (c1 := c6) (hC548.disj 2 0 rfl rfl (by decide)))
                    have ho563 := own_fr ho553 hF554 (hC548.disj 2 0 rfl rfl (by decide))
                    have hrf564 : rfAt w555 (g64 :: blk (.slice A5 n5 c5)) g64 m5 := rf_mk hC556 0 1 rfl rfl ho561
                    have hC565 := hC556.toF1 0 1 rfl rfl
                    refine WD.call 6 (by kernel_rfl) rfl rfl rfl rfl rfl (by kernel_rfl) (RCancel_n (g64 :: blk (.slice A5 n5 c5)) g64 m5 e90.A e90.n e90.c e90.ks w555 hrf564 hnd_ (by omega) (Rd.fr hop_e90.row hC565.fr) hop_e90.len (by omega) (fun b_ off_ e_ n_ hx_ => absurd (rd_lt hop_e90.row (fun _ => by simp [Go.Tw.encI_len]) e_ n_) (Nat.not_lt.2 ((hC565.ownF _ (List.mem_of_getElem? (show _[1]? = some (g64 :: blk (.slice A5 n5 c5)) from rfl)) b_ hx_).resolve_left (fun h_ => nomatch h_))))) ?_
                    rintro _ w567 ⟨F570, rfl, hF566, hT569, hsub571⟩
                    have hT569' : rfAt w567 F570 g64 (canL m5 e90.ks) := hT569
                    have hC568 := hC565.callF 1 rfl hF566 hsub571 (rfAt_lt hT569)
                    have hS572 := hS560.trans hF566 (fun x_ hx_ => .inl (List.mem_append.2 (.inr hx_)))
                    refine ⟨_, rfl, hS572, ?_⟩
                    have hf573 := whAt_fr hT557' hF566 (hC565.disj 0 1 rfl rfl (by decide))
                    have ho574 := own_fr ho562 hF566 (blk_al (n1 := (e90.n + 1)) (c1 := c6) (hC565.disj 2 1 rfl rfl (by decide)))
                    have ho575 := own_fr ho563 hF566 (hC565.disj 2 1 rfl rfl (by decide))
                    obtain ⟨A576, c577, hp578, ho579, rfl, hn580⟩ := hT569'
                    have hC581 := hC568.unF1 1 rfl hp578 hn580
                    refine WD.pure (NoPanic.block (NoPanic.then (NoPanic.block (NoPanic.then (NoPanic.then (NoPanic.block (NoPanic.then hN))))))) 7 114 (.bool ((canN m5 e90.ks : Int) == (canN m5 e90.ks : Int))) (by kernel_rfl) (fun _ => by kernel_rfl) hS572 ?_
                    refine WD.pure (NoPanic.block (NoPanic.then (NoPanic.block (NoPanic.then (NoPanic.then (NoPanic.block (NoPanic.then hN))))))) 8 11 (.bool ((canN m5 e90.ks : Int) == (canN m5 e90.ks : Int))) (by kernel_rfl) (fun _ => by kernel_rfl) hS572 ?_
                    refine WD.done (by kernel_rfl) ?_
                    refine QX.block_normal ?_
                    refine QX.then_normal ?_
                    have hC582 := hC581.pickM [1, 0] [0, 1, 2] (by decide) rfl rfl
                    exact fun a_ ha_ => hK294 _ _ ⟨((canN m5 e90.ks : Int) == (canN m5 e90.ks : Int)), F558, A576, (canL m5 e90.ks).length, c577, canL m5 e90.ks, h5, rfl, hC582, ho574, ho575, hf573, ho579, by first | rfl | (simp; done), hhd.can hnd_, by have q_ := canL_len2 m5 e90.ks; rw [totW_take he91]; omega⟩ a_ (ha_.weaken (sub_of ⟨rfl, rfl, rfl, rfl, rfl, rfl, rfl, rfl, rfl, rfl, trivial⟩))
                  · -- e90.kind = 1: false
                    have t545 : ¬ (e90.kind = 1) := by simpa using t545b
                    refine WC.cond_false rfl ?_
                    refine WC.seq (fun K583 hK584 => ?_)
                    refine WC.region ?_
                    refine WL.runs 2 [(115, .bool (e90.kind == 2)), (116, .bool (e90.kind == 2))] (fun _ => by kernel_rfl) ?_
                    refine WL.done rfl ?_
                    refine QX.then_normal (hK584 _ _ ?_)
                    refine WC.test_at 115 (e90.kind == 2) rfl (fun t585b => ?_) (fun t585b => ?_)
                    · -- e90.kind = 2: true
                      have t585 : e90.kind = 2 := by simpa using t585b
                      refine WC.cond_true rfl ?_
                      refine WC.seq (fun K586 hK587 => ?_)
                      refine WC.region ?_
                      refine WL.runs 1 [(12, .int .i64 0)] (fun _ => by kernel_rfl) ?_
                      refine WL.done rfl ?_
                      refine QX.then_normal (hK587 _ _ ?_)
                      refine WC.seq (fun K588 hK589 => ?_)
                      refine WC.seq (fun K590 hK591 => ?_)
                      refine WC.region ?_
                      refine WL.runs 1 [(117, .pointer (some ⟨g96, 2, none⟩))] (fun _ => by kernel_rfl) ?_
                      refine WL.load 22 (.pointer (some ⟨g96, 2, none⟩)) (.slice e90.A e90.n e90.c) 118 (by kernel_rfl) (run_ld (hC113.get 1 rfl) rfl) ?_
                      refine WL.runs 2 [(120, .bool (decide ((e90.n : Int) > 0))), (119, .int .i64 (e90.n : Int))] (fun _ => by kernel_rfl) ?_
                      refine WL.done rfl ?_
                      refine QX.then_normal (hK591 _ _ ?_)
                      refine WC.test_at 120 (decide ((e90.n : Int) > 0)) rfl (fun t592b => ?_) (fun t592b => ?_)
                      · -- (e90.n : Int) > 0: true
                        have t592 : (0 : Int) < (e90.n : Int) := by have q_ := of_decide_eq_true t592b; omega
                        refine WC.cond_true rfl ?_
                        refine WC.region ?_
                        refine WL.runs 1 [(121, .pointer (some ⟨g96, 2, none⟩))] (fun _ => by kernel_rfl) ?_
                        refine WL.load 22 (.pointer (some ⟨g96, 2, none⟩)) (.slice e90.A e90.n e90.c) 122 (by kernel_rfl) (run_ld (hC113.get 1 rfl) rfl) ?_
                        obtain ⟨e593, he594⟩ := get_some (xs := e90.ks) (i := 0) (by omega)
                        obtain ⟨b595, o597, hA596, hc598⟩ := hop_e90.row.at_ _ _ he594
                        refine WL.index e90.A e90.n e90.c 123 .i64 0 b595 o597 0 1 (by kernel_rfl) hA596 (by omega) (by omega) (o597 + 0) (by first | (simp; done) | omega) ?_
                        refine WL.load 3 (.pointer (some ⟨b595, o597 + 0, none⟩)) (.int .i64 e593) 124 (by kernel_rfl) (run_load1 rfl (by simpa [Nat.add_assoc] using hC113.fr.cell (hc598 0 _ rfl) (by simp))) ?_
                        refine WL.runs 1 [(12, .int .i64 e593)] (fun _ => by kernel_rfl) ?_
                        refine WL.done rfl ?_
                        refine QX.then_normal (hK589 _ _ ?_)
                        refine WC.seq (fun K599 hK600 => ?_)
                        refine WC.region ?_
                        refine WL.runs 2 [(127, .int .i64 e593), (126, .pointer (some ⟨p32, 0, none⟩))] (fun _ => by kernel_rfl) ?_
                        refine WL.call rfl rfl rfl rfl rfl (by kernel_rfl) (At_ct F5 p32 (Int.toNat slots) m5 h5 e593 w112 whl39_m111) ?_
                        rintro _ w602 ⟨rfl, hF601⟩
                        refine ⟨_, rfl, ?_⟩
                        have hC603 := hC113.call hF601
                        have hf604 := whAt_fr whl39_m111 hF601 (by simp)
                        have ho605 := own_fr row_m111 hF601 (by simp)
                        have ho606 := own_fr hcx6 hF601 (by simp)
                        have ho607 := own_fr hcf6 hF601 (by simp)
                        refine WL.runs 5 [(14, .bool ((lookL m5 e593).isSome)), (13, .int .i64 ((lookL m5 e593).getD 0)), (130, .bool ((lookL m5 e593).isSome)), (129, .int .i64 ((lookL m5 e593).getD 0)), (125, .tuple #[.int .i64 ((lookL m5 e593).getD 0), .bool ((lookL m5 e593).isSome)])] (fun _ => by kernel_rfl) ?_
                        refine WL.done rfl ?_
                        refine QX.then_normal (hK600 _ _ ?_)
                        refine WC.seq (fun K608 hK609 => ?_)
                        refine WC.region ?_
                        refine WL.runs 2 [(133, .int .i64 e593), (132, .pointer (some ⟨g64, 0, none⟩))] (fun _ => by kernel_rfl) ?_
                        refine WL.call rfl rfl rfl rfl rfl (by kernel_rfl) (RAt_ct _ g64 m5 e593 w602 (rf_mk hC603 0 1 rfl rfl ho605)) ?_
                        rintro _ w611 ⟨rfl, hF610⟩
                        refine ⟨_, rfl, ?_⟩
                        have hC612 := hC603.call hF610
                        have hf613 := whAt_fr hf604 hF610 (by simp)
                        have ho614 := own_fr ho605 hF610 (by simp)
                        have ho615 := own_fr ho606 hF610 (by simp)
                        have ho616 := own_fr ho607 hF610 (by simp)
                        refine WL.runs 5 [(16, .bool ((lookL m5 e593).isSome)), (15, .int .i64 ((lookL m5 e593).getD 0)), (136, .bool ((lookL m5 e593).isSome)), (135, .int .i64 ((lookL m5 e593).getD 0)), (131, .tuple #[.int .i64 ((lookL m5 e593).getD 0), .bool ((lookL m5 e593).isSome)])] (fun _ => by kernel_rfl) ?_
                        refine WL.done rfl ?_
                        refine QX.then_normal (hK609 _ _ ?_)
                        refine WC.region ?_
                        refine WL.runs 4 [(140, .bool (((lookL m5 e593).getD 0) == ((lookL m5 e593).getD 0))), (139, .bool (((lookL m5 e593).getD 0) == ((lookL m5 e593).getD 0))), (138, .int .i64 ((lookL m5 e593).getD 0)), (137, .int .i64 ((lookL m5 e593).getD 0))] (fun _ => by kernel_rfl) ?_
                        refine WL.know 140 (.bool (((lookL m5 e593).getD 0) == ((lookL m5 e593).getD 0))) (.bool true) rfl (congrArg Value.bool (by first | rfl | (simp; done) | decide)) ?_
                        refine WL.runs 5 [(11, .bool (((lookL m5 e593).isSome) == ((lookL m5 e593).isSome))), (144, .bool (((lookL m5 e593).isSome) == ((lookL m5 e593).isSome))), (143, .bool (((lookL m5 e593).isSome) == ((lookL m5 e593).isSome))), (142, .bool ((lookL m5 e593).isSome)), (141, .bool ((lookL m5 e593).isSome))] (fun _ => by kernel_rfl) ?_
                        refine WL.done rfl ?_
                        refine QX.block_normal ?_
                        refine QX.then_normal ?_
                        have hC617 := hC612.pickM [0, 1] [0, 1, 2] (by decide) rfl rfl
                        exact fun a_ ha_ => hK294 _ _ ⟨(((lookL m5 e593).isSome) == ((lookL m5 e593).isSome)), F5, A5, n5, c5, m5, h5, rfl, hC617, ho615, ho616, hf613, ho614, by first | rfl | (simp; done), hhd, by rw [totW_take he91]; omega⟩ a_ (ha_.weaken (sub_of ⟨rfl, rfl, rfl, rfl, rfl, rfl, rfl, rfl, rfl, rfl, trivial⟩))
                      · -- (e90.n : Int) > 0: false
                        have t592 : (e90.n : Int) ≤ 0 := by have q_ := of_decide_eq_false t592b; omega
                        refine WC.cond_false rfl ?_
                        refine WC.skip ?_
                        refine QX.then_normal (hK589 _ _ ?_)
                        refine WC.seq (fun K618 hK619 => ?_)
                        refine WC.region ?_
                        refine WL.runs 2 [(127, .int .i64 0), (126, .pointer (some ⟨p32, 0, none⟩))] (fun _ => by kernel_rfl) ?_
                        refine WL.call rfl rfl rfl rfl rfl (by kernel_rfl) (At_ct F5 p32 (Int.toNat slots) m5 h5 0 w112 whl39_m111) ?_
                        rintro _ w621 ⟨rfl, hF620⟩
                        refine ⟨_, rfl, ?_⟩
                        have hC622 := hC113.call hF620
                        have hf623 := whAt_fr whl39_m111 hF620 (by simp)
                        have ho624 := own_fr row_m111 hF620 (by simp)
                        have ho625 := own_fr hcx6 hF620 (by simp)
                        have ho626 := own_fr hcf6 hF620 (by simp)
                        refine WL.runs 5 [(14, .bool ((lookL m5 0).isSome)), (13, .int .i64 ((lookL m5 0).getD 0)), (130, .bool ((lookL m5 0).isSome)), (129, .int .i64 ((lookL m5 0).getD 0)), (125, .tuple #[.int .i64 ((lookL m5 0).getD 0), .bool ((lookL m5 0).isSome)])] (fun _ => by kernel_rfl) ?_
                        refine WL.done rfl ?_
                        refine QX.then_normal (hK619 _ _ ?_)
                        refine WC.seq (fun K627 hK628 => ?_)
                        refine WC.region ?_
                        refine WL.runs 2 [(133, .int .i64 0), (132, .pointer (some ⟨g64, 0, none⟩))] (fun _ => by kernel_rfl) ?_
                        refine WL.call rfl rfl rfl rfl rfl (by kernel_rfl) (RAt_ct _ g64 m5 0 w621 (rf_mk hC622 0 1 rfl rfl ho624)) ?_
                        rintro _ w630 ⟨rfl, hF629⟩
                        refine ⟨_, rfl, ?_⟩
                        have hC631 := hC622.call hF629
                        have hf632 := whAt_fr hf623 hF629 (by simp)
                        have ho633 := own_fr ho624 hF629 (by simp)
                        have ho634 := own_fr ho625 hF629 (by simp)
                        have ho635 := own_fr ho626 hF629 (by simp)
                        refine WL.runs 5 [(16, .bool ((lookL m5 0).isSome)), (15, .int .i64 ((lookL m5 0).getD 0)), (136, .bool ((lookL m5 0).isSome)), (135, .int .i64 ((lookL m5 0).getD 0)), (131, .tuple #[.int .i64 ((lookL m5 0).getD 0), .bool ((lookL m5 0).isSome)])] (fun _ => by kernel_rfl) ?_
                        refine WL.done rfl ?_
                        refine QX.then_normal (hK628 _ _ ?_)
                        refine WC.region ?_
                        refine WL.runs 4 [(140, .bool (((lookL m5 0).getD 0) == ((lookL m5 0).getD 0))), (139, .bool (((lookL m5 0).getD 0) == ((lookL m5 0).getD 0))), (138, .int .i64 ((lookL m5 0).getD 0)), (137, .int .i64 ((lookL m5 0).getD 0))] (fun _ => by kernel_rfl) ?_
                        refine WL.know 140 (.bool (((lookL m5 0).getD 0) == ((lookL m5 0).getD 0))) (.bool true) rfl (congrArg Value.bool (by first | rfl | (simp; done) | decide)) ?_
                        refine WL.runs 5 [(11, .bool (((lookL m5 0).isSome) == ((lookL m5 0).isSome))), (144, .bool (((lookL m5 0).isSome) == ((lookL m5 0).isSome))), (143, .bool (((lookL m5 0).isSome) == ((lookL m5 0).isSome))), (142, .bool ((lookL m5 0).isSome)), (141, .bool ((lookL m5 0).isSome))] (fun _ => by kernel_rfl) ?_
                        refine WL.done rfl ?_
                        refine QX.block_normal ?_
                        refine QX.then_normal ?_
                        have hC636 := hC631.pickM [0, 1] [0, 1, 2] (by decide) rfl rfl
                        exact fun a_ ha_ => hK294 _ _ ⟨(((lookL m5 0).isSome) == ((lookL m5 0).isSome)), F5, A5, n5, c5, m5, h5, rfl, hC636, ho634, ho635, hf632, ho633, by first | rfl | (simp; done), hhd, by rw [totW_take he91]; omega⟩ a_ (ha_.weaken (sub_of ⟨rfl, rfl, rfl, rfl, rfl, rfl, rfl, rfl, rfl, rfl, trivial⟩))
                    · -- e90.kind = 2: false
                      have t585 : ¬ (e90.kind = 2) := by simpa using t585b
                      refine WC.cond_false rfl ?_
                      refine WC.drawC hC113 (F5 ++ (g64 :: blk (.slice A5 n5 c5))) (by kernel_rfl) (fun w637 hF638 hC639 hS640 => ?_)
                      have hf641 := whAt_fr whl39_m111 hF638 (by simp)
                      have ho642 := own_fr row_m111 hF638 (by simp)
                      have ho643 := own_fr hcx6 hF638 (by simp)
                      have ho644 := own_fr hcf6 hF638 (by simp)
                      refine WD.pure (NoPanic.block (NoPanic.then (NoPanic.block (NoPanic.then (NoPanic.then (NoPanic.block (NoPanic.then hN))))))) 0 81 (.pointer (some ⟨p32, 0, none⟩)) (by kernel_rfl) (fun _ => by kernel_rfl) hS640 ?_
                      refine WD.pure (NoPanic.block (NoPanic.then (NoPanic.block (NoPanic.then (NoPanic.then (NoPanic.block (NoPanic.then hN))))))) 1 82 (.pointer (some ⟨g96, 1, none⟩)) (by kernel_rfl) (fun _ => by kernel_rfl) hS640 ?_
                      refine WD.pure (NoPanic.block (NoPanic.then (NoPanic.block (NoPanic.then (NoPanic.then (NoPanic.block (NoPanic.then hN))))))) 4 85 (.pointer (some ⟨g64, 0, none⟩)) (by kernel_rfl) (fun _ => by kernel_rfl) hS640 ?_
                      refine WD.pure (NoPanic.block (NoPanic.then (NoPanic.block (NoPanic.then (NoPanic.then (NoPanic.block (NoPanic.then hN))))))) 5 86 (.pointer (some ⟨g96, 1, none⟩)) (by kernel_rfl) (fun _ => by kernel_rfl) hS640 ?_
                      refine WD.load (NoPanic.block (NoPanic.then (NoPanic.block (NoPanic.then (NoPanic.then (NoPanic.block (NoPanic.then hN))))))) 2 3 (.pointer (some ⟨g96, 1, none⟩)) (.int .i64 e90.at_) 83 (by kernel_rfl) (by kernel_rfl) (fun _ hS_ => run_ld (Fr.has hS_ (hC639.get 1 rfl) (fun h_ => (List.mem_append.1 h_).elim (hC639.notin 0 1 rfl rfl) (fun h2_ => (List.mem_cons.1 h2_).elim (hC639.ne 1 0 rfl rfl (by decide)) (hC639.notin 1 1 rfl rfl)))) rfl) hS640 ?_
                      refine WD.load (NoPanic.block (NoPanic.then (NoPanic.block (NoPanic.then (NoPanic.then (NoPanic.block (NoPanic.then hN))))))) 6 3 (.pointer (some ⟨g96, 1, none⟩)) (.int .i64 e90.at_) 87 (by kernel_rfl) (by kernel_rfl) (fun _ hS_ => run_ld (Fr.has hS_ (hC639.get 1 rfl) (fun h_ => (List.mem_append.1 h_).elim (hC639.notin 0 1 rfl rfl) (fun h2_ => (List.mem_cons.1 h2_).elim (hC639.ne 1 0 rfl rfl (by decide)) (hC639.notin 1 1 rfl rfl)))) rfl) hS640 ?_
                      have hcl_ := canL_len2 m5 (dueK m5 e90.at_)
                      refine WD.call 3 (by kernel_rfl) rfl rfl rfl rfl rfl (by kernel_rfl) (Due_to F5 p32 (Int.toNat slots) m5 h5 e90.at_ w637 (dueK m5 e90.at_) (canL m5 (dueK m5 e90.at_)) (dueH h5 e90.at_) (rfl) (rfl) (rfl) hf641 hhd.1.1 hhd.1.2 (by omega) hhd.2 (by omega)) ?_
                      rintro _ w652 ⟨v645, F646, rfl, hF647, hT648, hsub649, ho650, hd651⟩
                      have hC653 := hC639.callFN 0 rfl hF647 hsub649 (whAt_lt hT648) (own_ge ho650) (own_lt ho650) (fun x_ hx_ h_ => hd651 x_ h_ hx_)
                      obtain ⟨A654, c655, rfl, hle656⟩ := own_form ho650
                      have ho657 := own_base (b' := 0) ho650 (fun _ _ => Nat.zero_le _)
                      have hS658 := hS640.trans hF647 (fun x_ hx_ => .inl (List.mem_append.2 (.inl hx_)))
                      refine ⟨_, rfl, hS658, ?_⟩
                      have ho659 := own_fr ho642 hF647 (hC639.disj 1 0 rfl rfl (by decide))
                      have ho660 := own_fr ho643 hF647 (blk_al (n1 := (e90.n + 1)) (c1 := c6) (hC639.disj 2 0 rfl rfl (by decide)))
                      have ho661 := own_fr ho644 hF647 (hC639.disj 2 0 rfl rfl (by decide))
                      have hrf663 : rfAt w652 (g64 :: blk (.slice A5 n5 c5)) g64 m5 := rf_mk hC653 0 1 rfl rfl ho659
                      have hC664 := hC653.toF1 0 1 rfl rfl
                      refine WD.call 7 (by kernel_rfl) rfl rfl rfl rfl rfl (by kernel_rfl) (RDue_ct (g64 :: blk (.slice A5 n5 c5)) g64 m5 e90.at_ w652 hrf663 hnd_ (by omega)) ?_
                      rintro _ w672 ⟨v665, F666, rfl, hF667, hT668, hsub669, ho670, hd671⟩
                      have hC673 := hC664.callFN 1 rfl hF667 hsub669 (rfAt_lt hT668) (own_ge ho670) (own_lt ho670) (fun x_ hx_ h_ => hd671 x_ h_ hx_)
                      obtain ⟨A674, c675, rfl, hle676⟩ := own_form ho670
                      have ho677 := own_base (b' := 0) ho670 (fun _ _ => Nat.zero_le _)
                      have hS678 := hS658.trans hF667 (fun x_ hx_ => .inl (List.mem_append.2 (.inr hx_)))
                      refine ⟨_, rfl, hS678, ?_⟩
                      have hf679 := whAt_fr hT648 hF667 (hC664.disj 0 1 rfl rfl (by decide))
                      have ho680 := own_fr ho660 hF667 (blk_al (n1 := (e90.n + 1)) (c1 := c6) (hC664.disj 2 1 rfl rfl (by decide)))
                      have ho681 := own_fr ho661 hF667 (hC664.disj 2 1 rfl rfl (by decide))
                      have ho682 := own_fr ho657 hF667 (hC664.disj 3 1 rfl rfl (by decide))
                      obtain ⟨A684, c685, hp686, ho687, rfl, hn688⟩ := hT668
                      have hC689 := hC673.unF1 1 rfl hp686 hn688
                      refine WD.call 8 (by kernel_rfl) rfl rfl rfl rfl rfl (by kernel_rfl) (Ints_n A654 A674 ((dueK m5 e90.at_).length) c655 ((dueK m5 e90.at_).length) c675 (dueK m5 e90.at_) (dueK m5 e90.at_) w672 (own_rd ho682 (Go.Tw.encI_len _) (by decide)) (own_count (Go.Tw.encI_len _) (by decide) ho682) (by rw [own_count (Go.Tw.encI_len _) (by decide) ho682]; exact own_max ho682) (own_rd ho677 (Go.Tw.encI_len _) (by decide)) (own_count (Go.Tw.encI_len _) (by decide) ho677) (by rw [own_count (Go.Tw.encI_len _) (by decide) ho677]; exact own_max ho677)) ?_
                      rintro _ w691 ⟨rfl, hF690⟩
                      have hS693 := hS678.trans hF690 (by simp)
                      refine ⟨_, rfl, hS693, ?_⟩
                      have hC692 := hC689.call hF690
                      have hf694 := whAt_fr hf679 hF690 (by simp)
                      have ho695 := own_fr ho680 hF690 (by simp)
                      have ho696 := own_fr ho681 hF690 (by simp)
                      have ho697 := own_fr ho682 hF690 (by simp)
                      have ho698 := own_fr ho677 hF690 (by simp)
                      have ho699 := own_fr ho687 hF690 (by simp)
                      refine WD.pure (NoPanic.block (NoPanic.then (NoPanic.block (NoPanic.then (NoPanic.then (NoPanic.block (NoPanic.then hN))))))) 9 11 (.bool (decide ((dueK m5 e90.at_) = (dueK m5 e90.at_)))) (by kernel_rfl) (fun _ => by kernel_rfl) hS693 ?_
                      refine WD.done (by kernel_rfl) ?_
                      refine QX.block_normal ?_
                      refine QX.then_normal ?_
                      have hC700 := hC692.pickM [1, 0] [0, 1, 2] (by decide) rfl rfl
                      exact fun a_ ha_ => hK294 _ _ ⟨(decide ((dueK m5 e90.at_) = (dueK m5 e90.at_))), F646, A684, (canL m5 (dueK m5 e90.at_)).length, c685, (canL m5 (dueK m5 e90.at_)), (dueH h5 e90.at_), rfl, hC700, ho695, ho696, hf694, ho699, by first | rfl | (simp; done), hhd.due hnd_, by have q_ := canL_len2 m5 (dueK m5 e90.at_); rw [totW_take he91]; omega⟩ a_ (ha_.weaken (sub_of ⟨rfl, rfl, rfl, rfl, rfl, rfl, rfl, rfl, rfl, rfl, trivial⟩))
            rintro E_ w296 ⟨ok8, F8, A8, n8, c8, m8, h8, rfl, hC297, cown_m295, cfull_m295, hx8, hrow8, hok8, hhd8, hml8⟩
            subst hok8
            have hc8_ := own_count tmC_len (by decide) hrow8
            refine WC.seq (fun K701 hK702 => ?_)
            refine WC.region ?_
            refine WL.runs 1 [(146, .pointer (some ⟨p32, 0, none⟩))] (fun _ => by kernel_rfl) ?_
            refine WL.call rfl rfl rfl rfl rfl (by kernel_rfl) (Next_ct F8 p32 (Int.toNat slots) m8 h8 w296 hx8) ?_
            rintro _ w704 ⟨rfl, hF703⟩
            refine ⟨_, rfl, ?_⟩
            have hC705 := hC297.call hF703
            have ho706 := own_fr cown_m295 hF703 (by simp)
            have ho707 := own_fr cfull_m295 hF703 (by simp)
            have hf708 := whAt_fr hx8 hF703 (by simp)
            have ho709 := own_fr hrow8 hF703 (by simp)
            refine WL.runs 5 [(18, .bool (!List.isEmpty (m8 : List (Int × Int)))), (17, .int .i64 (nextL m8)), (149, .bool (!List.isEmpty (m8 : List (Int × Int)))), (148, .int .i64 (nextL m8)), (145, .tuple #[.int .i64 (nextL m8), .bool (!List.isEmpty (m8 : List (Int × Int)))])] (fun _ => by kernel_rfl) ?_
            refine WL.done rfl ?_
            refine QX.then_normal (hK702 _ _ ?_)
            refine WC.seq (fun K710 hK711 => ?_)
            refine WC.region ?_
            refine WL.runs 1 [(151, .pointer (some ⟨g64, 0, none⟩))] (fun _ => by kernel_rfl) ?_
            refine WL.call rfl rfl rfl rfl rfl (by kernel_rfl) (RNext_ct _ g64 m8 w704 (rf_mk hC705 0 1 rfl rfl ho709)) ?_
            rintro _ w713 ⟨rfl, hF712⟩
            refine ⟨_, rfl, ?_⟩
            have hC714 := hC705.call hF712
            have ho715 := own_fr ho706 hF712 (by simp)
            have ho716 := own_fr ho707 hF712 (by simp)
            have hf717 := whAt_fr hf708 hF712 (by simp)
            have ho718 := own_fr ho709 hF712 (by simp)
            refine WL.runs 5 [(20, .bool (!List.isEmpty (m8 : List (Int × Int)))), (19, .int .i64 (nextL m8)), (154, .bool (!List.isEmpty (m8 : List (Int × Int)))), (153, .int .i64 (nextL m8)), (150, .tuple #[.int .i64 (nextL m8), .bool (!List.isEmpty (m8 : List (Int × Int)))])] (fun _ => by kernel_rfl) ?_
            refine WL.done rfl ?_
            refine QX.then_normal (hK711 _ _ ?_)
            refine WC.seq (fun K719 hK720 => ?_)
            refine WC.drawC hC714 [] (by kernel_rfl) (fun w721 hF722 hC723 hS724 => ?_)
            have ho725 := own_fr ho715 hF722 (by simp)
            have ho726 := own_fr ho716 hF722 (by simp)
            have hf727 := whAt_fr hf717 hF722 (by simp)
            have ho728 := own_fr ho718 hF722 (by simp)
            refine WD.pure (NoPanic.then (NoPanic.block (NoPanic.then (NoPanic.then (NoPanic.block (NoPanic.then hN)))))) 0 155 (.bool true) (by kernel_rfl) (fun _ => by kernel_rfl) hS724 ?_
            refine WD.pure (NoPanic.then (NoPanic.block (NoPanic.then (NoPanic.then (NoPanic.block (NoPanic.then hN)))))) 1 156 (.bool false) (by kernel_rfl) (fun _ => by kernel_rfl) hS724 ?_
            refine WD.pure (NoPanic.then (NoPanic.block (NoPanic.then (NoPanic.then (NoPanic.block (NoPanic.then hN)))))) 2 157 (.bool false) (by kernel_rfl) (fun _ => by kernel_rfl) hS724 ?_
            refine WD.pure (NoPanic.then (NoPanic.block (NoPanic.then (NoPanic.then (NoPanic.block (NoPanic.then hN)))))) 3 158 (.int .i64 (nextL m8)) (by kernel_rfl) (fun _ => by kernel_rfl) hS724 ?_
            refine WD.pure (NoPanic.then (NoPanic.block (NoPanic.then (NoPanic.then (NoPanic.block (NoPanic.then hN)))))) 4 159 (.int .i64 (nextL m8)) (by kernel_rfl) (fun _ => by kernel_rfl) hS724 ?_
            refine WD.pure (NoPanic.then (NoPanic.block (NoPanic.then (NoPanic.then (NoPanic.block (NoPanic.then hN)))))) 5 160 (.bool ((nextL m8) != (nextL m8))) (by kernel_rfl) (fun _ => by kernel_rfl) hS724 ?_
            refine WD.pure (NoPanic.then (NoPanic.block (NoPanic.then (NoPanic.then (NoPanic.block (NoPanic.then hN)))))) 6 161 (.bool ((nextL m8) != (nextL m8))) (by kernel_rfl) (fun _ => by kernel_rfl) hS724 ?_
            refine WD.pure (NoPanic.then (NoPanic.block (NoPanic.then (NoPanic.then (NoPanic.block (NoPanic.then hN)))))) 7 162 (.bool ((nextL m8) != (nextL m8))) (by kernel_rfl) (fun _ => by kernel_rfl) hS724 ?_
            refine WD.know 162 (.bool ((nextL m8) != (nextL m8))) (.bool false) rfl (congrArg Value.bool (by first | rfl | (simp; done) | decide)) ?_
            refine WD.pure (NoPanic.then (NoPanic.block (NoPanic.then (NoPanic.then (NoPanic.block (NoPanic.then hN)))))) 8 163 (.bool (!List.isEmpty (m8 : List (Int × Int)))) (by kernel_rfl) (fun _ => by kernel_rfl) hS724 ?_
            refine WD.pure (NoPanic.then (NoPanic.block (NoPanic.then (NoPanic.then (NoPanic.block (NoPanic.then hN)))))) 9 164 (.bool (!List.isEmpty (m8 : List (Int × Int)))) (by kernel_rfl) (fun _ => by kernel_rfl) hS724 ?_
            refine WD.pure (NoPanic.then (NoPanic.block (NoPanic.then (NoPanic.then (NoPanic.block (NoPanic.then hN)))))) 10 165 (.bool ((!List.isEmpty (m8 : List (Int × Int))) != (!List.isEmpty (m8 : List (Int × Int))))) (by kernel_rfl) (fun _ => by kernel_rfl) hS724 ?_
            refine WD.pure (NoPanic.then (NoPanic.block (NoPanic.then (NoPanic.then (NoPanic.block (NoPanic.then hN)))))) 11 166 (.bool ((!List.isEmpty (m8 : List (Int × Int))) != (!List.isEmpty (m8 : List (Int × Int))))) (by kernel_rfl) (fun _ => by kernel_rfl) hS724 ?_
            refine WD.pure (NoPanic.then (NoPanic.block (NoPanic.then (NoPanic.then (NoPanic.block (NoPanic.then hN)))))) 12 167 (.bool ((!List.isEmpty (m8 : List (Int × Int))) != (!List.isEmpty (m8 : List (Int × Int))))) (by kernel_rfl) (fun _ => by kernel_rfl) hS724 ?_
            refine WD.know 167 (.bool ((!List.isEmpty (m8 : List (Int × Int))) != (!List.isEmpty (m8 : List (Int × Int))))) (.bool false) rfl (congrArg Value.bool (by first | rfl | (simp; done) | decide)) ?_
            refine WD.pure (NoPanic.then (NoPanic.block (NoPanic.then (NoPanic.then (NoPanic.block (NoPanic.then hN)))))) 13 168 (.pointer (some ⟨p32, 0, none⟩)) (by kernel_rfl) (fun _ => by kernel_rfl) hS724 ?_
            refine WD.pure (NoPanic.then (NoPanic.block (NoPanic.then (NoPanic.then (NoPanic.block (NoPanic.then hN)))))) 15 170 (.pointer (some ⟨g64, 0, none⟩)) (by kernel_rfl) (fun _ => by kernel_rfl) hS724 ?_
            refine WD.pure (NoPanic.then (NoPanic.block (NoPanic.then (NoPanic.then (NoPanic.block (NoPanic.then hN)))))) 16 171 (.pointer (some ⟨g64, 0, none⟩)) (by kernel_rfl) (fun _ => by kernel_rfl) hS724 ?_
            refine WD.pure (NoPanic.then (NoPanic.block (NoPanic.then (NoPanic.then (NoPanic.block (NoPanic.then hN)))))) 17 172 (.pointer (some ⟨g64, 0, none⟩)) (by kernel_rfl) (fun _ => by kernel_rfl) hS724 ?_
            refine WD.load (NoPanic.then (NoPanic.block (NoPanic.then (NoPanic.then (NoPanic.block (NoPanic.then hN)))))) 18 47 (.pointer (some ⟨g64, 0, none⟩)) (.slice A8 n8 c8) 173 (by kernel_rfl) (by kernel_rfl) (fun _ hS_ => run_ld (Fr.has hS_ (hC723.get 0 rfl) (by simp)) rfl) hS724 ?_
            refine WD.pure (NoPanic.then (NoPanic.block (NoPanic.then (NoPanic.then (NoPanic.block (NoPanic.then hN)))))) 19 174 (.int .i64 (n8 : Int)) (by kernel_rfl) (fun _ => by kernel_rfl) hS724 ?_
            refine WD.call 14 (by kernel_rfl) rfl rfl rfl rfl rfl (by kernel_rfl) (Len_ct F8 p32 (Int.toNat slots) m8 h8 w721 hf727) ?_
            rintro _ w730 ⟨rfl, hF729⟩
            have hS732 := hS724.trans hF729 (by simp)
            refine ⟨_, rfl, hS732, ?_⟩
            have hC731 := hC723.call hF729
            have ho733 := own_fr ho725 hF729 (by simp)
            have ho734 := own_fr ho726 hF729 (by simp)
            have hf735 := whAt_fr hf727 hF729 (by simp)
            have ho736 := own_fr ho728 hF729 (by simp)
            refine WD.pure (NoPanic.then (NoPanic.block (NoPanic.then (NoPanic.then (NoPanic.block (NoPanic.then hN)))))) 20 175 (.bool (((m8 : List (Int × Int)).length : Int) != (n8 : Int))) (by kernel_rfl) (fun _ => by kernel_rfl) hS732 ?_
            refine WD.pure (NoPanic.then (NoPanic.block (NoPanic.then (NoPanic.then (NoPanic.block (NoPanic.then hN)))))) 21 176 (.bool (((m8 : List (Int × Int)).length : Int) != (n8 : Int))) (by kernel_rfl) (fun _ => by kernel_rfl) hS732 ?_
            refine WD.pure (NoPanic.then (NoPanic.block (NoPanic.then (NoPanic.then (NoPanic.block (NoPanic.then hN)))))) 22 177 (.bool (((m8 : List (Int × Int)).length : Int) != (n8 : Int))) (by kernel_rfl) (fun _ => by kernel_rfl) hS732 ?_
            refine WD.know 177 (.bool (((m8 : List (Int × Int)).length : Int) != (n8 : Int))) (.bool false) rfl (congrArg Value.bool (by rw [hc8_]; simp)) ?_
            refine WD.pure (NoPanic.then (NoPanic.block (NoPanic.then (NoPanic.then (NoPanic.block (NoPanic.then hN)))))) 23 178 (.slice A6 e90.n c6) (by kernel_rfl) (fun _ => by kernel_rfl) hS732 ?_
            refine WD.pure (NoPanic.then (NoPanic.block (NoPanic.then (NoPanic.then (NoPanic.block (NoPanic.then hN)))))) 24 179 (.pointer (some ⟨g96, 2, none⟩)) (by kernel_rfl) (fun _ => by kernel_rfl) hS732 ?_
            refine WD.load (NoPanic.then (NoPanic.block (NoPanic.then (NoPanic.then (NoPanic.block (NoPanic.then hN)))))) 25 22 (.pointer (some ⟨g96, 2, none⟩)) (.slice e90.A e90.n e90.c) 180 (by kernel_rfl) (by kernel_rfl) (fun _ hS_ => run_ld (Fr.has hS_ (hC723.get 1 rfl) (by simp)) rfl) hS732 ?_
            refine WD.call 26 (by kernel_rfl) rfl rfl rfl rfl rfl (by kernel_rfl) (Ints_n A6 e90.A e90.n c6 e90.n e90.c e90.ks e90.ks w730 (own_rd ho733 (Go.Tw.encI_len _) (by decide)) (own_count (Go.Tw.encI_len _) (by decide) ho733) (by rw [own_count (Go.Tw.encI_len _) (by decide) ho733]; exact own_max ho733) (Rd.fr hop_e90.row hC731.fr) hop_e90.len (by omega)) ?_
            rintro _ w738 ⟨rfl, hF737⟩
            have hS740 := hS732.trans hF737 (by simp)
            refine ⟨_, rfl, hS740, ?_⟩
            have hC739 := hC731.call hF737
            have ho741 := own_fr ho733 hF737 (by simp)
            have ho742 := own_fr ho734 hF737 (by simp)
            have hf743 := whAt_fr hf735 hF737 (by simp)
            have ho744 := own_fr ho736 hF737 (by simp)
            refine WD.pure (NoPanic.then (NoPanic.block (NoPanic.then (NoPanic.then (NoPanic.block (NoPanic.then hN)))))) 27 182 (.bool (!(decide (e90.ks = e90.ks)))) (by kernel_rfl) (fun _ => by kernel_rfl) hS740 ?_
            refine WD.pure (NoPanic.then (NoPanic.block (NoPanic.then (NoPanic.then (NoPanic.block (NoPanic.then hN)))))) 28 183 (.bool (!(decide (e90.ks = e90.ks)))) (by kernel_rfl) (fun _ => by kernel_rfl) hS740 ?_
            refine WD.pure (NoPanic.then (NoPanic.block (NoPanic.then (NoPanic.then (NoPanic.block (NoPanic.then hN)))))) 29 184 (.bool (!(decide (e90.ks = e90.ks)))) (by kernel_rfl) (fun _ => by kernel_rfl) hS740 ?_
            refine WD.know 184 (.bool (!(decide (e90.ks = e90.ks)))) (.bool false) rfl (congrArg Value.bool (by first | rfl | (simp; done) | decide)) ?_
            refine WD.pure (NoPanic.then (NoPanic.block (NoPanic.then (NoPanic.then (NoPanic.block (NoPanic.then hN)))))) 30 185 (.slice A6 e90.n c6) (by kernel_rfl) (fun _ => by kernel_rfl) hS740 ?_
            refine WD.pure (NoPanic.then (NoPanic.block (NoPanic.then (NoPanic.then (NoPanic.block (NoPanic.then hN)))))) 31 186 (.slice A6 e90.n c6) (by kernel_rfl) (fun _ => by kernel_rfl) hS740 ?_
            refine WD.pure (NoPanic.then (NoPanic.block (NoPanic.then (NoPanic.then (NoPanic.block (NoPanic.then hN)))))) 32 187 (.int .i64 (e90.n : Int)) (by kernel_rfl) (fun _ => by kernel_rfl) hS740 ?_
            refine WD.pure (NoPanic.then (NoPanic.block (NoPanic.then (NoPanic.then (NoPanic.block (NoPanic.then hN)))))) 33 188 (.int .i64 (IntKind.i64.wrap ((e90.n : Int) + 1))) (by kernel_rfl) (fun _ => by kernel_rfl) hS740 ?_
            refine WD.recast (show (.int .i64 (IntKind.i64.wrap ((e90.n : Int) + 1)) : Value) = .int .i64 ((e90.n : Int) + 1) from by rw [wrap_in_i64 ((e90.n : Int) + 1) (by omega) (by omega)]) ?_
            have hb745 : e90.n + 1 ≤ c6 := by omega
            refine WD.slc (NoPanic.then (NoPanic.block (NoPanic.then (NoPanic.then (NoPanic.block (NoPanic.then hN)))))) 34 22 3 1 A6 A6 e90.n c6 0 (e90.n + 1) (e90.n + 1) c6 none (some (.int .i64 ((e90.n : Int) + 1))) 189 (by kernel_rfl) (by kernel_rfl) (by kernel_rfl) bnd.no (bnd.yes (by omega)) (by omega) hb745 (slcAt_pre _ _ _) (by first | rfl | omega) (by first | rfl | omega) hS740 ?_
            refine WD.pure (NoPanic.then (NoPanic.block (NoPanic.then (NoPanic.then (NoPanic.block (NoPanic.then hN)))))) 35 190 (.slice A6 e90.n c6) (by kernel_rfl) (fun _ => by kernel_rfl) hS740 ?_
            refine WD.pure (NoPanic.then (NoPanic.block (NoPanic.then (NoPanic.then (NoPanic.block (NoPanic.then hN)))))) 36 191 (.int .i64 (e90.n : Int)) (by kernel_rfl) (fun _ => by kernel_rfl) hS740 ?_
            have hn750 := own_count (Go.Tw.encI_len _) (by decide) ho742
            obtain ⟨e746, he747⟩ := get_some (xs := (e90.ks ++ [-77])) (i := e90.n) (by omega)
            obtain ⟨b748, hA749⟩ := own_addr (by decide) (Go.Tw.encI_len _) ho742 he747
            refine WD.index (NoPanic.then (NoPanic.block (NoPanic.then (NoPanic.then (NoPanic.block (NoPanic.then hN)))))) 37 A6 (e90.n + 1) c6 192 .i64 (e90.n : Int) b748 0 e90.n 1 (by kernel_rfl) (by kernel_rfl) hA749 (by omega) (by omega) e90.n (by first | (simp; done) | omega) hS740 ?_
            refine WD.load (NoPanic.then (NoPanic.block (NoPanic.then (NoPanic.then (NoPanic.block (NoPanic.then hN)))))) 38 3 (.pointer (some ⟨b748, e90.n, none⟩)) (.int .i64 e746) 193 (by kernel_rfl) (by kernel_rfl) (fun _ hS_ => run_load1 rfl (by simpa [Nat.add_assoc] using Rd.cell (own_rd (own_fr ho726 hS_ (by simp)) (Go.Tw.encI_len _) (by decide)) hA749 he747 0 _ rfl)) hS740 ?_
            refine WD.pure (NoPanic.then (NoPanic.block (NoPanic.then (NoPanic.then (NoPanic.block (NoPanic.then hN)))))) 39 194 (.bool (e746 != (-77))) (by kernel_rfl) (fun _ => by kernel_rfl) hS740 ?_
            refine WD.pure (NoPanic.then (NoPanic.block (NoPanic.then (NoPanic.then (NoPanic.block (NoPanic.then hN)))))) 40 195 (.bool (e746 != (-77))) (by kernel_rfl) (fun _ => by kernel_rfl) hS740 ?_
            refine WD.done (by kernel_rfl) ?_
            refine QX.then_normal (hK720 _ _ ?_)
            refine WC.know 195 (.bool (e746 != (-77))) (.bool false) rfl (congrArg Value.bool (by have z_ := snoc_last hop_e90.len he747; rw [z_]; rfl)) ?_
            refine WC.cond_false rfl ?_
            refine WC.skip ?_
            refine QX.block_normal ?_
            refine QX.then_normal (hK87 _ _ ?_)
            refine WC.region ?_
            refine WL.runs 1 [(196, .int .i64 (IntKind.i64.wrap ((i : Int) + 1)))] (fun _ => by kernel_rfl) ?_
            refine WL.recast (show (.int .i64 (IntKind.i64.wrap ((i : Int) + 1)) : Value) = .int .i64 ((i : Int) + 1) from by rw [wrap_in_i64 ((i : Int) + 1) (by omega) (by omega)]) ?_
            refine WL.runs 1 [(61, .int .i64 ((i : Int) + 1))] (fun _ => by kernel_rfl) ?_
            refine WL.done rfl ?_
            refine QX.then_normal ?_
            have hC751 := hC739.pick [0] [0, 1] rfl rfl
            refine fun a_ ha_ => hK76 _ _ _ ?_ ⟨i + 1, F8, A8, n8, c8, m8, h8, rfl, rfl, hC751, hf743, ho744, by omega, hhd8, hml8⟩ a_ (ha_.weaken (sub_of ⟨rfl, rfl, rfl, rfl, rfl, rfl, rfl, trivial⟩))
            omega
          · -- (i : Int) < (ops.length : Int): false
            have t85 : (ops.length : Int) ≤ (i : Int) := by have q_ := of_decide_eq_false t85b; omega
            refine WC.cond_false rfl ?_
            refine WC.exit ?_
            refine QX.then_exit ?_
            refine QX.then_exit ?_
            refine QX.block_hit ?_
            refine QX.then_normal (hK72 _ _ ?_)
            refine WC.seq (fun K752 hK753 => ?_)
            refine WC.region ?_
            refine WL.runs 1 [(4, .bool true)] (fun _ => by kernel_rfl) ?_
            refine WL.done rfl ?_
            refine QX.then_normal (hK753 _ _ ?_)
            refine WC.ret ?_
            refine (hret _ _ _ rfl ?_).1
            clear hN hret hret' hK753 hK84 hK82 hK74 hK72 hK63 hK53 hK51 hK43 hK41 hK11 hK6 hK4 hK2
            exact ⟨rfl, hC80.fr⟩

end Go.Proofs.Ytkafccgbagbncaa
