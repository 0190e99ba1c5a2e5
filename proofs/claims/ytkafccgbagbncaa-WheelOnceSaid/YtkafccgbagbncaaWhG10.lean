/- Contracts of functions of the program, each proved by a walk through its code; conditions stand in the statements. -/
import Derived.Test.YtkafccgbagbncaaWhF10
namespace Go.Proofs.Ytkafccgbagbncaa
set_option linter.unusedSimpArgs false
set_option linter.unusedVariables false
set_option linter.unusedSectionVars false
open Go Go.RowKit Go.Tw
set_option linter.unusedVariables false
set_option maxRecDepth 20000
theorem set_new {m : List (Int × Int)} {a k : Int} (h : ∀ t ∈ m, t.1 < k) : setL m a [k] = m ++ [(k, a)] := by
  have hn : lookL m k = none := by
    cases hl : lookL m k with
    | none => rfl
    | some v => exact absurd (h _ (look_mem2 hl)) (by simp)
  show delL m k ++ [(k, a)] = _
  rw [del_none2 hn]
theorem rest_next {m : List (Int × Int)} (h : (m.map (·.1)).Nodup) {now : Int} (hne : canL m (dueK m now) ≠ []) : now < nextL (canL m (dueK m now)) := by
  obtain ⟨_, t, ht, he⟩ := nextL_min hne
  rw [he]; exact ((mem_rest h).1 ht).2
theorem empty_len (m : List (Int × Int)) : ((!List.isEmpty m) == decide ((m.length : Int) > 0)) = true := by
  cases m with
  | nil => rfl
  | cons a r => simp
theorem canL_len2 (m : List (Int × Int)) (ks : List Int) : (canL m ks).length ≤ m.length := by
  induction ks generalizing m with
  | nil => exact Nat.le_refl _
  | cons k r ih => exact Nat.le_trans (ih (delL m k)) (canL_len k)
theorem WheelNext_ct (slots : Int) (A : Option Addr) (c : Nat) (times : List Int) (now : Int) (w : World) (hr : Rd w 1 (Go.Tw.encI .i64) A times) (hnb : now ≤ 9223372036854775807) : Calls Try.prog 5 #[.int .i64 slots, .slice A times.length c, .int .i64 now] w fun e w' => e = .returned (.bool true) ∧ Fr w w' [] := by
  refine enterD (n := 98) Try.func5 rfl rfl (Nat.le_of_ble_eq_true rfl) ?_
  intro Q0 hN hret hret'
  have hC := Cx.start w
  refine WC.seq (fun K1 hK2 => ?_)
  refine WC.region ?_
  refine WL.runs 1 [(6, .bool false)] (fun _ => by kernel_rfl) ?_
  refine WL.done rfl ?_
  refine QX.then_normal (hK2 _ _ ?_)
  refine WC.seq (fun K3 hK4 => ?_)
  refine WC.seq (fun K5 hK6 => ?_)
  refine WC.region ?_
  refine WL.call rfl rfl rfl rfl rfl (by kernel_rfl) (alive_ct w) ?_
  rintro _ w8 ⟨rfl, hF7⟩
  refine ⟨_, rfl, ?_⟩
  have hC9 := hC.call hF7
  refine WL.runs 1 [(16, .bool false)] (fun _ => by kernel_rfl) ?_
  refine WL.done rfl ?_
  refine QX.then_normal (hK6 _ _ ?_)
  refine WC.cond_false rfl ?_
  refine WC.skip ?_
  refine QX.then_normal (hK4 _ _ ?_)
  refine WC.seq (fun K10 hK11 => ?_)
  refine WC.seq (fun K12 hK13 => ?_)
  refine WC.region ?_
  refine WL.runs 3 [(19, .bool (decide (slots < 1))), (18, .bool (decide (slots < 1))), (17, .int .i64 slots)] (fun _ => by kernel_rfl) ?_
  refine WL.test_at 19 (decide (slots < 1)) rfl (fun t14b => ?_) (fun t14b => ?_)
  · -- slots < 1: true
    have t14 : slots < 1 := by have q_ := of_decide_eq_true t14b; omega
    refine WL.runs 8 [(27, .bool true), (26, undef), (25, undef), (24, undef), (23, .bool true), (22, .bool true), (21, undef), (20, undef)] (fun _ => by kernel_rfl) ?_
    refine WL.done rfl ?_
    refine QX.then_normal (hK13 _ _ ?_)
    refine WC.cond_true rfl ?_
    refine WC.seq (fun K15 hK16 => ?_)
    refine WC.region ?_
    refine WL.runs 1 [(6, .bool true)] (fun _ => by kernel_rfl) ?_
    refine WL.done rfl ?_
    refine QX.then_normal (hK16 _ _ ?_)
    refine WC.ret ?_
    refine QX.then_ret ?_
    refine (hret _ _ _ rfl ?_).1
    clear hN hret hret' hK16 hK13 hK11 hK6 hK4 hK2
    exact ⟨rfl, hC9.fr⟩
  · -- slots < 1: false
    have t14 : (1 : Int) ≤ slots := by have q_ := of_decide_eq_false t14b; omega
    refine WL.runs 4 [(23, .bool (decide (slots > 1024))), (22, .bool (decide (slots > 1024))), (21, .bool (decide (slots > 1024))), (20, .int .i64 slots)] (fun _ => by kernel_rfl) ?_
    refine WL.test_at 23 (decide (slots > 1024)) rfl (fun t17b => ?_) (fun t17b => ?_)
    · -- slots > 1024: true
      have t17 : (1024 : Int) < slots := by have q_ := of_decide_eq_true t17b; omega
      refine WL.runs 4 [(27, .bool true), (26, undef), (25, undef), (24, undef)] (fun _ => by kernel_rfl) ?_
      refine WL.done rfl ?_
      refine QX.then_normal (hK13 _ _ ?_)
      refine WC.cond_true rfl ?_
      refine WC.seq (fun K18 hK19 => ?_)
      refine WC.region ?_
      refine WL.runs 1 [(6, .bool true)] (fun _ => by kernel_rfl) ?_
      refine WL.done rfl ?_
      refine QX.then_normal (hK19 _ _ ?_)
      refine WC.ret ?_
      refine QX.then_ret ?_
      refine (hret _ _ _ rfl ?_).1
      clear hN hret hret' hK19 hK13 hK11 hK6 hK4 hK2
      exact ⟨rfl, hC9.fr⟩
    · -- slots > 1024: false
      have t17 : slots ≤ 1024 := by have q_ := of_decide_eq_false t17b; omega
      refine WL.runs 4 [(27, .bool (decide ((times.length : Int) > 200))), (26, .bool (decide ((times.length : Int) > 200))), (25, .int .i64 (times.length : Int)), (24, .slice A times.length c)] (fun _ => by kernel_rfl) ?_
      refine WL.done rfl ?_
      refine QX.then_normal (hK13 _ _ ?_)
      refine WC.test_at 27 (decide ((times.length : Int) > 200)) rfl (fun t20b => ?_) (fun t20b => ?_)
      · -- (times.length : Int) > 200: true
        have t20 : (200 : Int) < (times.length : Int) := by have q_ := of_decide_eq_true t20b; omega
        refine WC.cond_true rfl ?_
        refine WC.seq (fun K21 hK22 => ?_)
        refine WC.region ?_
        refine WL.runs 1 [(6, .bool true)] (fun _ => by kernel_rfl) ?_
        refine WL.done rfl ?_
        refine QX.then_normal (hK22 _ _ ?_)
        refine WC.ret ?_
        refine QX.then_ret ?_
        refine (hret _ _ _ rfl ?_).1
        clear hN hret hret' hK22 hK13 hK11 hK6 hK4 hK2
        exact ⟨rfl, hC9.fr⟩
      · -- (times.length : Int) > 200: false
        have t20 : (times.length : Int) ≤ 200 := by have q_ := of_decide_eq_false t20b; omega
        refine WC.cond_false rfl ?_
        refine WC.skip ?_
        refine QX.then_normal (hK11 _ _ ?_)
        refine WC.seq (fun K23 hK24 => ?_)
        refine WC.region ?_
        refine WL.runs 1 [(29, .int .i64 slots)] (fun _ => by kernel_rfl) ?_
        refine WL.call rfl rfl rfl rfl rfl (by kernel_rfl) (New_z slots w8 (by omega) (by omega)) ?_
        rintro _ w30 ⟨p25, F26, rfl, hF29, hT27, hge28⟩
        have hC31 := hC9.callN hF29 hge28 (whAt_lt hT27)
        refine ⟨_, rfl, ?_⟩
        refine WL.runs 5 [(8, .nilIface), (7, .pointer (some ⟨p25, 0, none⟩)), (32, .nilIface), (31, .pointer (some ⟨p25, 0, none⟩)), (28, .tuple #[.pointer (some ⟨p25, 0, none⟩), .nilIface])] (fun _ => by kernel_rfl) ?_
        refine WL.done rfl ?_
        refine QX.then_normal (hK24 _ _ ?_)
        refine WC.seq (fun K33 hK34 => ?_)
        refine WC.seq (fun K35 hK36 => ?_)
        refine WC.region ?_
        refine WL.runs 6 [(38, .bool false), (37, .bool false), (36, .pointer (some ⟨p25, 0, none⟩)), (35, .bool false), (34, .bool false), (33, .nilIface)] (fun _ => by kernel_rfl) ?_
        refine WL.done rfl ?_
        refine QX.then_normal (hK36 _ _ ?_)
        refine WC.cond_false rfl ?_
        refine WC.skip ?_
        refine QX.then_normal (hK34 _ _ ?_)
        refine WC.seq (fun K37 hK38 => ?_)
        refine WC.region ?_
        refine WL.runs 2 [(10, .bool false), (9, .int .i64 0)] (fun _ => by kernel_rfl) ?_
        refine WL.done rfl ?_
        refine QX.then_normal (hK38 _ _ ?_)
        refine WC.seq (fun K39 hK40 => ?_)
        refine WC.seq (fun K41 hK42 => ?_)
        refine WC.region ?_
        refine WL.runs 3 [(41, .int .i64 0), (40, .int .i64 (times.length : Int)), (39, .slice A times.length c)] (fun _ => by kernel_rfl) ?_
        refine WL.done rfl ?_
        refine QX.then_normal (hK42 _ _ ?_)
        refine WC.block ?_
        refine WC.loop (fun m_ E_ w_ => ∃ (i : Nat) (F5 : List Nat) (m5 : List (Int × Int)) (least : Int) (there : Bool), m_ = times.length - i ∧ E_ = [(0, .int .i64 slots), (1, .slice A times.length c), (2, .int .i64 now), (6, .bool false), (7, .pointer (some ⟨p25, 0, none⟩)), (9, .int .i64 least), (10, .bool there), (39, .slice A times.length c), (40, .int .i64 (times.length : Int)), (41, .int .i64 (i : Int))] ∧ Cx w [] w_ [] [F5] ∧ whAt w_ F5 p25 (Int.toNat slots) m5 0 ∧ (i ≤ times.length ∧ leastI m5 least there ∧ (∀ t ∈ m5, t.1 < (i : Int)) ∧ m5.length ≤ i)) ⟨_, _, ⟨0, F26, [], 0, false, rfl, rfl, hC31, hT27, Nat.zero_le _, .inl ⟨rfl, rfl, rfl⟩, (fun _ h_ => nomatch h_), Nat.le_refl _⟩, sub_of ⟨rfl, rfl, rfl, rfl, rfl, rfl, rfl, rfl, rfl, rfl, trivial⟩⟩ (fun m46 E_ w47 K43 hK44 hI45 => ?_)
        obtain ⟨i, F5, m5, least, there, rfl, rfl, hC48, hwh5, hi, hle, hkb, hml5⟩ := hI45
        refine WC.seq (fun K49 hK50 => ?_)
        refine WC.region ?_
        refine WL.runs 1 [(42, .bool (decide ((i : Int) < (times.length : Int))))] (fun _ => by kernel_rfl) ?_
        refine WL.done rfl ?_
        refine QX.then_normal (hK50 _ _ ?_)
        refine WC.seq (fun K51 hK52 => ?_)
        refine WC.test_at 42 (decide ((i : Int) < (times.length : Int))) rfl (fun t53b => ?_) (fun t53b => ?_)
        · -- (i : Int) < (times.length : Int): true
          have t53 : (i : Int) < (times.length : Int) := by have q_ := of_decide_eq_true t53b; omega
          refine WC.cond_true rfl ?_
          refine WC.skip ?_
          refine QX.then_normal (hK52 _ _ ?_)
          refine WC.seq (fun K54 hK55 => ?_)
          refine WC.block ?_
          refine WC.seq (fun K56 hK57 => ?_)
          refine WC.region ?_
          refine WL.runs 1 [(43, .int .i64 (i : Int))] (fun _ => by kernel_rfl) ?_
          obtain ⟨e58, he59⟩ := get_some (xs := times) (i := i) (by omega)
          obtain ⟨b60, o62, hA61, hc63⟩ := hr.at_ _ _ he59
          refine WL.index A times.length c 44 .i64 (i : Int) b60 o62 i 1 (by kernel_rfl) hA61 (by omega) (by omega) (o62 + i) (by first | (simp; done) | omega) ?_
          rcases (show (e58 < 0 ∨ 1099511627776 < e58) ∨ (0 ≤ e58 ∧ e58 ≤ 1099511627776) by omega) with hb64 | hb64
          · skip
            refine WL.load 3 (.pointer (some ⟨b60, o62 + i, none⟩)) (.int .i64 e58) 45 (by kernel_rfl) (run_load1 rfl (by simpa [Nat.add_assoc] using hC48.fr.cell (hc63 0 _ rfl) (by simp))) ?_
            refine WL.runs 2 [(12, .int .i64 e58), (11, .int .i64 (i : Int))] (fun _ => by kernel_rfl) ?_
            refine WL.done rfl ?_
            refine QX.then_normal (hK57 _ _ ?_)
            refine WC.seq (fun K65 hK66 => ?_)
            refine WC.region ?_
            refine WL.runs 3 [(48, .int .i64 (i : Int)), (47, .int .i64 e58), (46, .pointer (some ⟨p25, 0, none⟩))] (fun _ => by kernel_rfl) ?_
            refine WL.newM hC48 (fun b => .slice (some ⟨b, 0, none⟩) 1 1) (.cells #[.int .i64 (i : Int)] 3) 49 (fun _ => by kernel_rfl) (fun g67 w68 hb71 hF69 hC70 => ?_)
            have hf72 := whAt_fr hwh5 hF69 (by simp)
            refine WL.call rfl rfl rfl rfl rfl (by kernel_rfl) (Set_no p25 e58 (some ⟨g67, 0, none⟩) 1 1 w68 (hb64)) ?_
            rintro _ w74 ⟨rfl, hF73⟩
            refine ⟨_, rfl, ?_⟩
            have hC75 := hC70.call hF73
            have hf76 := whAt_fr hf72 hF73 (by simp)
            refine WL.runs 10 [(60, .bool false), (59, undef), (58, undef), (57, undef), (56, undef), (55, undef), (54, undef), (53, undef), (52, .bool false), (51, .bool false)] (fun _ => by kernel_rfl) ?_
            refine WL.done rfl ?_
            refine QX.then_normal (hK66 _ _ ?_)
            refine WC.cond_false rfl ?_
            refine WC.skip ?_
            refine QX.block_normal ?_
            refine QX.then_normal (hK55 _ _ ?_)
            refine WC.region ?_
            refine WL.runs 1 [(62, .int .i64 (IntKind.i64.wrap ((i : Int) + 1)))] (fun _ => by kernel_rfl) ?_
            refine WL.recast (show (.int .i64 (IntKind.i64.wrap ((i : Int) + 1)) : Value) = .int .i64 ((i : Int) + 1) from by rw [wrap_in_i64 ((i : Int) + 1) (by omega) (by omega)]) ?_
            refine WL.runs 1 [(41, .int .i64 ((i : Int) + 1))] (fun _ => by kernel_rfl) ?_
            refine WL.done rfl ?_
            refine QX.then_normal ?_
            have hC77 := hC75.pick [] [0] rfl rfl
            refine fun a_ ha_ => hK44 _ _ _ ?_ ⟨i + 1, F5, m5, least, there, rfl, rfl, hC77, hf76, by omega, hle, (fun t_ ht_ => by have q_ := hkb t_ ht_; omega), by omega⟩ a_ (ha_.weaken (sub_of ⟨rfl, rfl, rfl, rfl, rfl, rfl, rfl, rfl, rfl, rfl, trivial⟩))
            omega
          · skip
            obtain ⟨hg0_, hg1_⟩ := hb64
            refine WL.load 3 (.pointer (some ⟨b60, o62 + i, none⟩)) (.int .i64 e58) 45 (by kernel_rfl) (run_load1 rfl (by simpa [Nat.add_assoc] using hC48.fr.cell (hc63 0 _ rfl) (by simp))) ?_
            refine WL.runs 2 [(12, .int .i64 e58), (11, .int .i64 (i : Int))] (fun _ => by kernel_rfl) ?_
            refine WL.done rfl ?_
            refine QX.then_normal (hK57 _ _ ?_)
            refine WC.seq (fun K78 hK79 => ?_)
            refine WC.region ?_
            refine WL.runs 3 [(48, .int .i64 (i : Int)), (47, .int .i64 e58), (46, .pointer (some ⟨p25, 0, none⟩))] (fun _ => by kernel_rfl) ?_
            refine WL.newM hC48 (fun b => .slice (some ⟨b, 0, none⟩) 1 1) (.cells #[.int .i64 (i : Int)] 3) 49 (fun _ => by kernel_rfl) (fun g80 w81 hb84 hF82 hC83 => ?_)
            have hf85 := whAt_fr hwh5 hF82 (by simp)
            refine WL.call rfl rfl rfl rfl rfl (by kernel_rfl) (Set_to F5 p25 (Int.toNat slots) m5 0 e58 (some ⟨g80, 0, none⟩) 1 1 [(i : Int)] w81 (m5 ++ [((i : Int), e58)]) 0 (set_new hkb) (setH_0 (by omega) _) hf85 (by omega) (by omega) (by simp; omega) (Rd.blk (hC83.get 0 rfl) (Go.Tw.encI_len _) rfl) rfl (by simp) (fun _ _ e_ => by cases e_; exact hC83.notin 0 0 rfl rfl)) ?_
            rintro _ w87 ⟨F90, rfl, hF86, hT89, hsub91⟩
            have hT89' : whAt w87 F90 p25 (Int.toNat slots) (m5 ++ [((i : Int), e58)]) 0 := hT89
            have hC88 := hC83.callF 0 rfl hF86 hsub91 (whAt_lt hT89')
            refine ⟨_, rfl, ?_⟩
            refine WL.runs 5 [(55, .bool !there), (54, .bool !there), (53, .bool there), (52, .bool true), (51, .bool true)] (fun _ => by kernel_rfl) ?_
            refine WL.test_at 55 (!there) rfl (fun t92b => ?_) (fun t92b => ?_)
            · -- !there = true: true
              have t92 : there = false := by first | (simpa only [Bool.not_eq_true', Bool.not_eq_false'] using t92b) | simpa using t92b
              refine WL.runs 5 [(60, .bool true), (59, .bool true), (58, undef), (57, undef), (56, undef)] (fun _ => by kernel_rfl) ?_
              refine WL.done rfl ?_
              refine QX.then_normal (hK79 _ _ ?_)
              refine WC.cond_true rfl ?_
              refine WC.region ?_
              refine WL.runs 3 [(10, .bool true), (9, .int .i64 e58), (61, .int .i64 e58)] (fun _ => by kernel_rfl) ?_
              refine WL.done rfl ?_
              refine QX.block_normal ?_
              refine QX.then_normal (hK55 _ _ ?_)
              refine WC.region ?_
              refine WL.runs 1 [(62, .int .i64 (IntKind.i64.wrap ((i : Int) + 1)))] (fun _ => by kernel_rfl) ?_
              refine WL.recast (show (.int .i64 (IntKind.i64.wrap ((i : Int) + 1)) : Value) = .int .i64 ((i : Int) + 1) from by rw [wrap_in_i64 ((i : Int) + 1) (by omega) (by omega)]) ?_
              refine WL.runs 1 [(41, .int .i64 ((i : Int) + 1))] (fun _ => by kernel_rfl) ?_
              refine WL.done rfl ?_
              refine QX.then_normal ?_
              have hC93 := hC88.pick [] [0] rfl rfl
              refine fun a_ ha_ => hK44 _ _ _ ?_ ⟨i + 1, F90, (m5 ++ [((i : Int), e58)]), e58, true, rfl, rfl, hC93, hT89', by omega, leastI_new (x := ((i : Int), e58)) hle (.inl (by simpa using t92)), (fun t_ ht_ => by rcases List.mem_append.1 ht_ with h_ | h_; (have q_ := hkb t_ h_; omega); (rw [List.mem_singleton] at h_; subst h_; dsimp only; omega)), by rw [List.length_append]; simp only [List.length_cons, List.length_nil]; omega⟩ a_ (ha_.weaken (sub_of ⟨rfl, rfl, rfl, rfl, rfl, rfl, rfl, rfl, rfl, rfl, trivial⟩))
              omega
            · -- !there = true: false
              have t92 : there = true := by first | (simpa only [Bool.not_eq_true', Bool.not_eq_false'] using t92b) | simpa using t92b
              refine WL.runs 5 [(60, .bool (decide (e58 < least))), (59, .bool (decide (e58 < least))), (58, .bool (decide (e58 < least))), (57, .int .i64 least), (56, .int .i64 e58)] (fun _ => by kernel_rfl) ?_
              refine WL.done rfl ?_
              refine QX.then_normal (hK79 _ _ ?_)
              refine WC.test_at 60 (decide (e58 < least)) rfl (fun t94b => ?_) (fun t94b => ?_)
              · -- e58 < least: true
                have t94 : e58 < least := by have q_ := of_decide_eq_true t94b; omega
                refine WC.cond_true rfl ?_
                refine WC.region ?_
                refine WL.runs 3 [(10, .bool true), (9, .int .i64 e58), (61, .int .i64 e58)] (fun _ => by kernel_rfl) ?_
                refine WL.done rfl ?_
                refine QX.block_normal ?_
                refine QX.then_normal (hK55 _ _ ?_)
                refine WC.region ?_
                refine WL.runs 1 [(62, .int .i64 (IntKind.i64.wrap ((i : Int) + 1)))] (fun _ => by kernel_rfl) ?_
                refine WL.recast (show (.int .i64 (IntKind.i64.wrap ((i : Int) + 1)) : Value) = .int .i64 ((i : Int) + 1) from by rw [wrap_in_i64 ((i : Int) + 1) (by omega) (by omega)]) ?_
                refine WL.runs 1 [(41, .int .i64 ((i : Int) + 1))] (fun _ => by kernel_rfl) ?_
                refine WL.done rfl ?_
                refine QX.then_normal ?_
                have hC95 := hC88.pick [] [0] rfl rfl
                refine fun a_ ha_ => hK44 _ _ _ ?_ ⟨i + 1, F90, (m5 ++ [((i : Int), e58)]), e58, true, rfl, rfl, hC95, hT89', by omega, leastI_new (x := ((i : Int), e58)) hle (.inr (by simpa using t94b)), (fun t_ ht_ => by rcases List.mem_append.1 ht_ with h_ | h_; (have q_ := hkb t_ h_; omega); (rw [List.mem_singleton] at h_; subst h_; dsimp only; omega)), by rw [List.length_append]; simp only [List.length_cons, List.length_nil]; omega⟩ a_ (ha_.weaken (sub_of ⟨rfl, rfl, rfl, rfl, rfl, rfl, rfl, rfl, rfl, rfl, trivial⟩))
                omega
              · -- e58 < least: false
                have t94 : least ≤ e58 := by have q_ := of_decide_eq_false t94b; omega
                refine WC.cond_false rfl ?_
                refine WC.skip ?_
                refine QX.block_normal ?_
                refine QX.then_normal (hK55 _ _ ?_)
                refine WC.region ?_
                refine WL.runs 1 [(62, .int .i64 (IntKind.i64.wrap ((i : Int) + 1)))] (fun _ => by kernel_rfl) ?_
                refine WL.recast (show (.int .i64 (IntKind.i64.wrap ((i : Int) + 1)) : Value) = .int .i64 ((i : Int) + 1) from by rw [wrap_in_i64 ((i : Int) + 1) (by omega) (by omega)]) ?_
                refine WL.runs 1 [(41, .int .i64 ((i : Int) + 1))] (fun _ => by kernel_rfl) ?_
                refine WL.done rfl ?_
                refine QX.then_normal ?_
                have hC96 := hC88.pick [] [0] rfl rfl
                refine fun a_ ha_ => hK44 _ _ _ ?_ ⟨i + 1, F90, (m5 ++ [((i : Int), e58)]), least, there, rfl, rfl, hC96, hT89', by omega, leastI_old (x := ((i : Int), e58)) hle (by simpa using t92) (by simpa using t94b), (fun t_ ht_ => by rcases List.mem_append.1 ht_ with h_ | h_; (have q_ := hkb t_ h_; omega); (rw [List.mem_singleton] at h_; subst h_; dsimp only; omega)), by rw [List.length_append]; simp only [List.length_cons, List.length_nil]; omega⟩ a_ (ha_.weaken (sub_of ⟨rfl, rfl, rfl, rfl, rfl, rfl, rfl, rfl, rfl, rfl, trivial⟩))
                omega
        · -- (i : Int) < (times.length : Int): false
          have t53 : (times.length : Int) ≤ (i : Int) := by have q_ := of_decide_eq_false t53b; omega
          refine WC.cond_false rfl ?_
          have hok5_ := whAt_ok hwh5
          obtain ⟨hlA_, hlB_⟩ := leastI_end hle (List.Perm.refl _)
          refine WC.exit ?_
          refine QX.then_exit ?_
          refine QX.then_exit ?_
          refine QX.block_hit ?_
          refine QX.then_normal (hK40 _ _ ?_)
          refine WC.seq (fun K97 hK98 => ?_)
          refine WC.region ?_
          refine WL.runs 1 [(64, .pointer (some ⟨p25, 0, none⟩))] (fun _ => by kernel_rfl) ?_
          refine WL.call rfl rfl rfl rfl rfl (by kernel_rfl) (Next_ct F5 p25 (Int.toNat slots) m5 0 w47 hwh5) ?_
          rintro _ w100 ⟨rfl, hF99⟩
          refine ⟨_, rfl, ?_⟩
          have hC101 := hC48.call hF99
          have hf102 := whAt_fr hwh5 hF99 (by simp)
          refine WL.runs 5 [(14, .bool (!List.isEmpty (m5 : List (Int × Int)))), (13, .int .i64 (nextL m5)), (67, .bool (!List.isEmpty (m5 : List (Int × Int)))), (66, .int .i64 (nextL m5)), (63, .tuple #[.int .i64 (nextL m5), .bool (!List.isEmpty (m5 : List (Int × Int)))])] (fun _ => by kernel_rfl) ?_
          refine WL.done rfl ?_
          refine QX.then_normal (hK98 _ _ ?_)
          refine WC.seq (fun K103 hK104 => ?_)
          refine WC.seq (fun K105 hK106 => ?_)
          refine WC.region ?_
          refine WL.runs 4 [(71, .bool ((!List.isEmpty (m5 : List (Int × Int))) != there)), (70, .bool ((!List.isEmpty (m5 : List (Int × Int))) != there)), (69, .bool there), (68, .bool (!List.isEmpty (m5 : List (Int × Int))))] (fun _ => by kernel_rfl) ?_
          refine WL.know 71 (.bool ((!List.isEmpty (m5 : List (Int × Int))) != there)) (.bool false) rfl (congrArg Value.bool (by rw [hlB_]; simp)) ?_
          refine WL.runs 4 [(75, .bool ((nextL m5) != least)), (74, .bool ((nextL m5) != least)), (73, .int .i64 least), (72, .int .i64 (nextL m5))] (fun _ => by kernel_rfl) ?_
          refine WL.done rfl ?_
          refine QX.then_normal (hK106 _ _ ?_)
          refine WC.know 75 (.bool ((nextL m5) != least)) (.bool false) rfl (congrArg Value.bool (by rw [hlA_]; simp)) ?_
          refine WC.cond_false rfl ?_
          refine WC.skip ?_
          refine QX.then_normal (hK104 _ _ ?_)
          refine WC.seq (fun K107 hK108 => ?_)
          refine WC.region ?_
          refine WL.runs 2 [(77, .int .i64 now), (76, .pointer (some ⟨p25, 0, none⟩))] (fun _ => by kernel_rfl) ?_
          have hlc_ := canL_len2 m5 (dueK m5 now)
          refine WL.call rfl rfl rfl rfl rfl (by kernel_rfl) (Due_to F5 p25 (Int.toNat slots) m5 0 now w100 (dueK m5 now) (canL m5 (dueK m5 now)) (dueH 0 now) (rfl) (rfl) (rfl) hf102 (by omega) (by omega) (by omega) (fun t_ ht_ => (hok5_.2.2 t_ ht_).1) (by omega)) ?_
          rintro _ w116 ⟨v109, F110, rfl, hF111, hT112, hsub113, ho114, hd115⟩
          have hC117 := hC101.callFN 0 rfl hF111 hsub113 (whAt_lt hT112) (own_ge ho114) (own_lt ho114) (fun x_ hx_ h_ => hd115 x_ h_ hx_)
          obtain ⟨A118, c119, rfl, hle120⟩ := own_form ho114
          have ho121 := own_base (b' := 0) ho114 (fun _ _ => Nat.zero_le _)
          refine ⟨_, rfl, ?_⟩
          refine WL.done rfl ?_
          refine QX.then_normal (hK108 _ _ ?_)
          refine WC.seq (fun K123 hK124 => ?_)
          refine WC.region ?_
          refine WL.runs 1 [(80, .pointer (some ⟨p25, 0, none⟩))] (fun _ => by kernel_rfl) ?_
          refine WL.call rfl rfl rfl rfl rfl (by kernel_rfl) (Next_ct F110 p25 (Int.toNat slots) (canL m5 (dueK m5 now)) (dueH 0 now) w116 hT112) ?_
          rintro _ w126 ⟨rfl, hF125⟩
          refine ⟨_, rfl, ?_⟩
          have hC127 := hC117.call hF125
          have hf128 := whAt_fr hT112 hF125 (by simp)
          have ho129 := own_fr ho121 hF125 (by simp)
          refine WL.runs 5 [(14, .bool (!List.isEmpty (canL m5 (dueK m5 now) : List (Int × Int)))), (13, .int .i64 (nextL (canL m5 (dueK m5 now)))), (83, .bool (!List.isEmpty (canL m5 (dueK m5 now) : List (Int × Int)))), (82, .int .i64 (nextL (canL m5 (dueK m5 now)))), (79, .tuple #[.int .i64 (nextL (canL m5 (dueK m5 now))), .bool (!List.isEmpty (canL m5 (dueK m5 now) : List (Int × Int)))])] (fun _ => by kernel_rfl) ?_
          refine WL.done rfl ?_
          refine QX.then_normal (hK124 _ _ ?_)
          refine WC.seq (fun K130 hK131 => ?_)
          refine WC.region ?_
          refine WL.runs 2 [(85, .pointer (some ⟨p25, 0, none⟩)), (84, .bool (!List.isEmpty (canL m5 (dueK m5 now) : List (Int × Int))))] (fun _ => by kernel_rfl) ?_
          refine WL.call rfl rfl rfl rfl rfl (by kernel_rfl) (Len_ct F110 p25 (Int.toNat slots) (canL m5 (dueK m5 now)) (dueH 0 now) w126 hf128) ?_
          rintro _ w133 ⟨rfl, hF132⟩
          refine ⟨_, rfl, ?_⟩
          have hC134 := hC127.call hF132
          have hf135 := whAt_fr hf128 hF132 (by simp)
          have ho136 := own_fr ho129 hF132 (by simp)
          refine WL.runs 3 [(89, .bool ((!List.isEmpty (canL m5 (dueK m5 now) : List (Int × Int))) == (decide (((canL m5 (dueK m5 now) : List (Int × Int)).length : Int) > 0)))), (88, .bool ((!List.isEmpty (canL m5 (dueK m5 now) : List (Int × Int))) == (decide (((canL m5 (dueK m5 now) : List (Int × Int)).length : Int) > 0)))), (87, .bool (decide (((canL m5 (dueK m5 now) : List (Int × Int)).length : Int) > 0)))] (fun _ => by kernel_rfl) ?_
          refine WL.know 89 (.bool ((!List.isEmpty (canL m5 (dueK m5 now) : List (Int × Int))) == (decide (((canL m5 (dueK m5 now) : List (Int × Int)).length : Int) > 0)))) (.bool true) rfl (congrArg Value.bool (by exact empty_len _)) ?_
          refine WL.runs 3 [(92, .bool (!(!List.isEmpty (canL m5 (dueK m5 now) : List (Int × Int))))), (91, .bool (!(!List.isEmpty (canL m5 (dueK m5 now) : List (Int × Int))))), (90, .bool (!List.isEmpty (canL m5 (dueK m5 now) : List (Int × Int))))] (fun _ => by kernel_rfl) ?_
          refine WL.test_at 92 (!(!List.isEmpty (canL m5 (dueK m5 now) : List (Int × Int)))) rfl (fun t137b => ?_) (fun t137b => ?_)
          · -- (!(!List.isEmpty (canL m5 (dueK m5 now) : List (Int × Int)))) = true: true
            have t137 : (!List.isEmpty (canL m5 (dueK m5 now) : List (Int × Int))) = false := by first | (simpa only [Bool.not_eq_true', Bool.not_eq_false'] using t137b) | simpa using t137b
            refine WL.runs 6 [(6, .bool true), (97, .bool true), (96, .bool true), (95, undef), (94, undef), (93, undef)] (fun _ => by kernel_rfl) ?_
            refine WL.done rfl ?_
            refine QX.then_normal (hK131 _ _ ?_)
            refine WC.ret ?_
            refine (hret _ _ _ rfl ?_).1
            clear hN hret hret' hK131 hK124 hK108 hK106 hK104 hK98 hK52 hK50 hK42 hK40 hK38 hK36 hK34 hK24 hK13 hK11 hK6 hK4 hK2
            exact ⟨rfl, hC134.fr⟩
          · -- (!(!List.isEmpty (canL m5 (dueK m5 now) : List (Int × Int)))) = true: false
            have t137 : (!List.isEmpty (canL m5 (dueK m5 now) : List (Int × Int))) = true := by first | (simpa only [Bool.not_eq_true', Bool.not_eq_false'] using t137b) | simpa using t137b
            refine WL.runs 6 [(6, .bool (decide ((nextL (canL m5 (dueK m5 now))) > now))), (97, .bool (decide ((nextL (canL m5 (dueK m5 now))) > now))), (96, .bool (decide ((nextL (canL m5 (dueK m5 now))) > now))), (95, .bool (decide ((nextL (canL m5 (dueK m5 now))) > now))), (94, .int .i64 now), (93, .int .i64 (nextL (canL m5 (dueK m5 now))))] (fun _ => by kernel_rfl) ?_
            refine WL.done rfl ?_
            refine QX.then_normal (hK131 _ _ ?_)
            refine WC.ret ?_
            refine (hret _ _ _ rfl ?_).1
            clear hN hret hret' hK131 hK124 hK108 hK106 hK104 hK98 hK52 hK50 hK42 hK40 hK38 hK36 hK34 hK24 hK13 hK11 hK6 hK4 hK2
            exact ⟨congrArg Ending.returned (congrArg Value.bool (by show decide _ = true; rw [decide_eq_true_eq]; exact rest_next hok5_.2.1 (by intro h_; simp [h_] at *))), hC134.fr⟩

end Go.Proofs.Ytkafccgbagbncaa
