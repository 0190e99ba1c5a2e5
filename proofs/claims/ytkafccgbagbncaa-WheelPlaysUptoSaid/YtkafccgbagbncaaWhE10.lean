/- Contracts of functions of the program, each proved by a walk through its code; conditions stand in the statements. -/
import Derived.Test.YtkafccgbagbncaaWhD10
namespace Go.Proofs.Ytkafccgbagbncaa
set_option linter.unusedSimpArgs false
set_option linter.unusedVariables false
set_option linter.unusedSectionVars false
open Go Go.RowKit Go.Tw
set_option linter.unusedVariables false
set_option maxRecDepth 20000
theorem due_eq {m D : List (Int × Int)} {now : Int} (hp : (dueF m now).Perm D) (hs : D.Pairwise (fun a b => leT a b = true)) : dueL m now = D := by
  have tr : ∀ a b c : Int × Int, leT a b = true → leT b c = true → leT a c = true := by
    intro a b c h1 h2
    rw [leT_iff] at *
    unfold ltT at *
    omega
  have to : ∀ a b : Int × Int, (leT a b || leT b a) = true := by
    intro a b
    simp only [Bool.or_eq_true, leT_iff]
    unfold ltT
    omega
  exact sort_uniq ((List.mergeSort_perm _ _).trans hp) (List.pairwise_mergeSort tr to _) hs
theorem dueK_of {m D : List (Int × Int)} {now : Int} {K : List Int} (hp : (dueF m now).Perm D) (hs : D.Pairwise (fun a b => leT a b = true)) (hK : D.map (·.1) = K) : dueK m now = K := by unfold dueK; rw [due_eq hp hs, hK]
theorem dueK_none {m : List (Int × Int)} {now : Int} (h : ∀ t ∈ m, now < t.2) : dueK m now = [] := by unfold dueK; rw [due_none h]; rfl
theorem due_one {k a now : Int} (h : a ≤ now) : dueK [(k, a)] now = [k] := dueK_of (D := [(k, a)]) (by unfold dueF; rw [List.filter_cons, if_pos (by simpa using h)]; exact List.Perm.refl _) (by simp) rfl
theorem ints_take {xs ys : List Int} {i : Nat} {a b : Int} (hm : xs.take i = ys.take i) (ha : xs[i]? = some a) (hb : ys[i]? = some b) (h : a = b) : xs.take (i + 1) = ys.take (i + 1) := by
  obtain ⟨h1, rfl⟩ := List.getElem?_eq_some_iff.1 ha
  obtain ⟨h2, rfl⟩ := List.getElem?_eq_some_iff.1 hb
  rw [List.take_succ_eq_append_getElem h1, List.take_succ_eq_append_getElem h2, hm, h]
theorem ints_end {xs ys : List Int} {i : Nat} (hm : xs.take i = ys.take i) (h1 : ¬ i < xs.length) (h2 : xs.length = ys.length) : xs = ys := by
  rw [List.take_of_length_le (by omega), List.take_of_length_le (by omega)] at hm; exact hm
theorem ints_ne {xs ys : List Int} {i : Nat} {a b : Int} (ha : xs[i]? = some a) (hb : ys[i]? = some b) (h : ¬ a = b) : xs ≠ ys := by
  intro e; subst e; rw [ha] at hb; exact h (Option.some.inj hb)
theorem Num_nil  (w : World) : Calls Try.prog 14 #[.nilIface] w fun e w' => e = .returned (.int .i64 0) ∧ Fr w w' [] := by
  refine enterD (n := 19) Try.func14 rfl rfl (Nat.le_of_ble_eq_true rfl) ?_
  intro Q0 hN hret hret'
  have hC := Cx.start w
  refine WC.seq (fun K1 hK2 => ?_)
  refine WC.region ?_
  refine WL.runs 1 [(2, .int .i64 0)] (fun _ => by kernel_rfl) ?_
  refine WL.done rfl ?_
  refine QX.then_normal (hK2 _ _ ?_)
  refine WC.seq (fun K3 hK4 => ?_)
  refine WC.seq (fun K5 hK6 => ?_)
  refine WC.region ?_
  refine WL.runs 2 [(6, .bool true), (5, .nilIface)] (fun _ => by kernel_rfl) ?_
  refine WL.done rfl ?_
  refine QX.then_normal (hK6 _ _ ?_)
  refine WC.cond_true rfl ?_
  refine WC.seq (fun K7 hK8 => ?_)
  refine WC.region ?_
  refine WL.runs 1 [(2, .int .i64 0)] (fun _ => by kernel_rfl) ?_
  refine WL.done rfl ?_
  refine QX.then_normal (hK8 _ _ ?_)
  refine WC.ret ?_
  refine QX.then_ret ?_
  refine (hret _ _ _ rfl ?_).1
  clear hN hret hret' hK8 hK6 hK4 hK2
  exact ⟨rfl, hC.fr⟩

theorem Num_some (c : Int) (w : World) (hc : c ≠ 0) : Calls Try.prog 14 #[.iface 45 (.int .i64 c)] w fun e w' => e = .returned (.int .i64 c) ∧ Fr w w' [] := by
  refine enterD (n := 19) Try.func14 rfl rfl (Nat.le_of_ble_eq_true rfl) ?_
  intro Q0 hN hret hret'
  have hC := Cx.start w
  refine WC.seq (fun K1 hK2 => ?_)
  refine WC.region ?_
  refine WL.runs 1 [(2, .int .i64 0)] (fun _ => by kernel_rfl) ?_
  refine WL.done rfl ?_
  refine QX.then_normal (hK2 _ _ ?_)
  refine WC.seq (fun K3 hK4 => ?_)
  refine WC.seq (fun K5 hK6 => ?_)
  refine WC.region ?_
  refine WL.runs 2 [(6, .bool false), (5, .iface 45 (.int .i64 c))] (fun _ => by kernel_rfl) ?_
  refine WL.done rfl ?_
  refine QX.then_normal (hK6 _ _ ?_)
  refine WC.cond_false rfl ?_
  refine WC.skip ?_
  refine QX.then_normal (hK4 _ _ ?_)
  refine WC.seq (fun K7 hK8 => ?_)
  refine WC.region ?_
  refine WL.runs 7 [(4, .bool true), (3, .int .i64 c), (11, .bool true), (10, .int .i64 c), (7, .tuple #[.int .i64 c, .bool true]), (9, .tuple #[.int .i64 c, .bool true]), (8, .iface 45 (.int .i64 c))] (fun _ => by kernel_rfl) ?_
  refine WL.done rfl ?_
  refine QX.then_normal (hK8 _ _ ?_)
  refine WC.seq (fun K9 hK10 => ?_)
  refine WC.seq (fun K11 hK12 => ?_)
  refine WC.region ?_
  refine WL.runs 6 [(17, .bool (c == 0)), (16, .bool (c == 0)), (15, .int .i64 c), (14, .bool false), (13, .bool false), (12, .bool true)] (fun _ => by kernel_rfl) ?_
  refine WL.done rfl ?_
  refine QX.then_normal (hK12 _ _ ?_)
  refine WC.know 17 (.bool (c == 0)) (.bool false) rfl (congrArg Value.bool (by simpa using hc)) ?_
  refine WC.cond_false rfl ?_
  refine WC.skip ?_
  refine QX.then_normal (hK10 _ _ ?_)
  refine WC.seq (fun K13 hK14 => ?_)
  refine WC.region ?_
  refine WL.runs 2 [(2, .int .i64 c), (18, .int .i64 c)] (fun _ => by kernel_rfl) ?_
  refine WL.done rfl ?_
  refine QX.then_normal (hK14 _ _ ?_)
  refine WC.ret ?_
  refine (hret _ _ _ rfl ?_).1
  clear hN hret hret' hK14 hK12 hK10 hK8 hK6 hK4 hK2
  exact ⟨rfl, hC.fr⟩

theorem Ints_ct (A B : Option Addr) (c c2 : Nat) (xs ys : List Int) (w : World) (hA : Rd w 1 (Go.Tw.encI .i64) A xs) (hB : Rd w 1 (Go.Tw.encI .i64) B ys) (h1 : xs.length ≤ 9223372036854775807) (h2 : ys.length ≤ 9223372036854775807) : Calls Try.prog 16 #[.slice A xs.length c, .slice B ys.length c2] w fun e w' => e = .returned (.bool (decide (xs = ys))) ∧ Fr w w' [] := by
  refine enterD (n := 26) Try.func16 rfl rfl (Nat.le_of_ble_eq_true rfl) ?_
  intro Q0 hN hret hret'
  have hC := Cx.start w
  refine WC.seq (fun K1 hK2 => ?_)
  refine WC.region ?_
  refine WL.runs 1 [(4, .bool false)] (fun _ => by kernel_rfl) ?_
  refine WL.done rfl ?_
  refine QX.then_normal (hK2 _ _ ?_)
  refine WC.seq (fun K3 hK4 => ?_)
  refine WC.seq (fun K5 hK6 => ?_)
  refine WC.region ?_
  refine WL.runs 5 [(10, .bool ((xs.length : Int) != (ys.length : Int))), (9, .int .i64 (ys.length : Int)), (8, .slice B ys.length c2), (7, .int .i64 (xs.length : Int)), (6, .slice A xs.length c)] (fun _ => by kernel_rfl) ?_
  refine WL.done rfl ?_
  refine QX.then_normal (hK6 _ _ ?_)
  refine WC.test_at 10 ((xs.length : Int) != (ys.length : Int)) rfl (fun t7b => ?_) (fun t7b => ?_)
  · -- (xs.length : Int) ≠ (ys.length : Int): true
    have t7 : (xs.length : Int) ≠ (ys.length : Int) := by simpa using t7b
    refine WC.cond_true rfl ?_
    refine WC.seq (fun K8 hK9 => ?_)
    refine WC.region ?_
    refine WL.runs 1 [(4, .bool false)] (fun _ => by kernel_rfl) ?_
    refine WL.done rfl ?_
    refine QX.then_normal (hK9 _ _ ?_)
    refine WC.ret ?_
    refine QX.then_ret ?_
    refine (hret _ _ _ rfl ?_).1
    clear hN hret hret' hK9 hK6 hK4 hK2
    exact ⟨by rw [decide_eq_false (fun e_ => by subst e_; omega)]; rfl, hC.fr⟩
  · -- (xs.length : Int) ≠ (ys.length : Int): false
    have t7 : (xs.length : Int) = (ys.length : Int) := by simpa using t7b
    refine WC.cond_false rfl ?_
    refine WC.skip ?_
    refine QX.then_normal (hK4 _ _ ?_)
    refine WC.seq (fun K10 hK11 => ?_)
    refine WC.seq (fun K12 hK13 => ?_)
    refine WC.region ?_
    refine WL.runs 3 [(13, .int .i64 0), (12, .int .i64 (xs.length : Int)), (11, .slice A xs.length c)] (fun _ => by kernel_rfl) ?_
    refine WL.done rfl ?_
    refine QX.then_normal (hK13 _ _ ?_)
    refine WC.block ?_
    refine WC.loop (fun m_ E_ w_ => ∃ (i : Nat), m_ = xs.length - i ∧ E_ = [(0, .slice A xs.length c), (1, .slice B ys.length c2), (12, .int .i64 (xs.length : Int)), (13, .int .i64 (i : Int))] ∧ Cx w [] w_ [] [] ∧ (i ≤ xs.length ∧ xs.take i = ys.take i)) ⟨_, _, ⟨0, rfl, rfl, hC, Nat.zero_le _, rfl⟩, sub_of ⟨rfl, rfl, rfl, rfl, trivial⟩⟩ (fun m17 E_ w18 K14 hK15 hI16 => ?_)
    obtain ⟨i, rfl, rfl, hC19, hi, htk⟩ := hI16
    refine WC.seq (fun K20 hK21 => ?_)
    refine WC.region ?_
    refine WL.runs 1 [(14, .bool (decide ((i : Int) < (xs.length : Int))))] (fun _ => by kernel_rfl) ?_
    refine WL.done rfl ?_
    refine QX.then_normal (hK21 _ _ ?_)
    refine WC.seq (fun K22 hK23 => ?_)
    refine WC.test_at 14 (decide ((i : Int) < (xs.length : Int))) rfl (fun t24b => ?_) (fun t24b => ?_)
    · -- (i : Int) < (xs.length : Int): true
      have t24 : (i : Int) < (xs.length : Int) := by have q_ := of_decide_eq_true t24b; omega
      refine WC.cond_true rfl ?_
      refine WC.skip ?_
      refine QX.then_normal (hK23 _ _ ?_)
      refine WC.seq (fun K25 hK26 => ?_)
      refine WC.block ?_
      refine WC.seq (fun K27 hK28 => ?_)
      refine WC.region ?_
      refine WL.runs 2 [(5, .int .i64 (i : Int)), (15, .int .i64 (i : Int))] (fun _ => by kernel_rfl) ?_
      refine WL.done rfl ?_
      refine QX.then_normal (hK28 _ _ ?_)
      refine WC.seq (fun K29 hK30 => ?_)
      refine WC.drawC hC19 [] (by kernel_rfl) (fun w31 hF32 hC33 hS34 => ?_)
      refine WD.pure (NoPanic.then (NoPanic.block (NoPanic.then (NoPanic.then (NoPanic.block (NoPanic.then hN)))))) 0 16 (.slice A xs.length c) (by kernel_rfl) (fun _ => by kernel_rfl) hS34 ?_
      refine WD.pure (NoPanic.then (NoPanic.block (NoPanic.then (NoPanic.then (NoPanic.block (NoPanic.then hN)))))) 1 17 (.int .i64 (i : Int)) (by kernel_rfl) (fun _ => by kernel_rfl) hS34 ?_
      obtain ⟨e35, he36⟩ := get_some (xs := xs) (i := i) (by omega)
      obtain ⟨b37, o39, hA38, hc40⟩ := hA.at_ _ _ he36
      refine WD.index (NoPanic.then (NoPanic.block (NoPanic.then (NoPanic.then (NoPanic.block (NoPanic.then hN)))))) 2 A xs.length c 18 .i64 (i : Int) b37 o39 i 1 (by kernel_rfl) (by kernel_rfl) hA38 (by omega) (by omega) (o39 + i) (by first | (simp; done) | omega) hS34 ?_
      refine WD.pure (NoPanic.then (NoPanic.block (NoPanic.then (NoPanic.then (NoPanic.block (NoPanic.then hN)))))) 4 20 (.slice B ys.length c2) (by kernel_rfl) (fun _ => by kernel_rfl) hS34 ?_
      refine WD.pure (NoPanic.then (NoPanic.block (NoPanic.then (NoPanic.then (NoPanic.block (NoPanic.then hN)))))) 5 21 (.int .i64 (i : Int)) (by kernel_rfl) (fun _ => by kernel_rfl) hS34 ?_
      obtain ⟨e41, he42⟩ := get_some (xs := ys) (i := i) (by omega)
      obtain ⟨b43, o45, hA44, hc46⟩ := hB.at_ _ _ he42
      refine WD.index (NoPanic.then (NoPanic.block (NoPanic.then (NoPanic.then (NoPanic.block (NoPanic.then hN)))))) 6 B ys.length c2 22 .i64 (i : Int) b43 o45 i 1 (by kernel_rfl) (by kernel_rfl) hA44 (by omega) (by omega) (o45 + i) (by first | (simp; done) | omega) hS34 ?_
      refine WD.load (NoPanic.then (NoPanic.block (NoPanic.then (NoPanic.then (NoPanic.block (NoPanic.then hN)))))) 3 3 (.pointer (some ⟨b37, o39 + i, none⟩)) (.int .i64 e35) 19 (by kernel_rfl) (by kernel_rfl) (fun _ hS_ => run_load1 rfl (by simpa [Nat.add_assoc] using Fr.cell hS_ (hC33.fr.cell (hc40 0 _ rfl) (by simp)) (by simp))) hS34 ?_
      refine WD.load (NoPanic.then (NoPanic.block (NoPanic.then (NoPanic.then (NoPanic.block (NoPanic.then hN)))))) 7 3 (.pointer (some ⟨b43, o45 + i, none⟩)) (.int .i64 e41) 23 (by kernel_rfl) (by kernel_rfl) (fun _ hS_ => run_load1 rfl (by simpa [Nat.add_assoc] using Fr.cell hS_ (hC33.fr.cell (hc46 0 _ rfl) (by simp)) (by simp))) hS34 ?_
      refine WD.pure (NoPanic.then (NoPanic.block (NoPanic.then (NoPanic.then (NoPanic.block (NoPanic.then hN)))))) 8 24 (.bool (e35 != e41)) (by kernel_rfl) (fun _ => by kernel_rfl) hS34 ?_
      refine WD.done (by kernel_rfl) ?_
      refine QX.then_normal (hK30 _ _ ?_)
      refine WC.test_at 24 (e35 != e41) rfl (fun t47b => ?_) (fun t47b => ?_)
      · -- e35 ≠ e41: true
        have t47 : e35 ≠ e41 := by simpa using t47b
        refine WC.cond_true rfl ?_
        refine WC.seq (fun K48 hK49 => ?_)
        refine WC.region ?_
        refine WL.runs 1 [(4, .bool false)] (fun _ => by kernel_rfl) ?_
        refine WL.done rfl ?_
        refine QX.then_normal (hK49 _ _ ?_)
        refine WC.ret ?_
        refine QX.block_ret ?_
        refine QX.then_ret ?_
        refine QX.then_ret ?_
        refine QX.block_ret ?_
        refine QX.then_ret ?_
        refine (hret _ _ _ rfl ?_).1
        clear hN hret hret' hK49 hK30 hK28 hK26 hK23 hK21 hK13 hK11 hK6 hK4 hK2
        exact ⟨by rw [decide_eq_false (ints_ne he36 he42 (by simpa using t47b))]; rfl, hC33.fr⟩
      · -- e35 ≠ e41: false
        have t47 : e35 = e41 := by simpa using t47b
        refine WC.cond_false rfl ?_
        refine WC.skip ?_
        refine QX.block_normal ?_
        refine QX.then_normal (hK26 _ _ ?_)
        refine WC.region ?_
        refine WL.runs 1 [(25, .int .i64 (IntKind.i64.wrap ((i : Int) + 1)))] (fun _ => by kernel_rfl) ?_
        refine WL.recast (show (.int .i64 (IntKind.i64.wrap ((i : Int) + 1)) : Value) = .int .i64 ((i : Int) + 1) from by rw [wrap_in_i64 ((i : Int) + 1) (by omega) (by omega)]) ?_
        refine WL.runs 1 [(13, .int .i64 ((i : Int) + 1))] (fun _ => by kernel_rfl) ?_
        refine WL.done rfl ?_
        refine QX.then_normal ?_
        have hC50 := hC33.pick [] [] rfl rfl
        refine fun a_ ha_ => hK15 _ _ _ ?_ ⟨i + 1, rfl, rfl, hC50, by omega, ints_take htk he36 he42 (by simpa using t47b)⟩ a_ (ha_.weaken (sub_of ⟨rfl, rfl, rfl, rfl, trivial⟩))
        omega
    · -- (i : Int) < (xs.length : Int): false
      have t24 : (xs.length : Int) ≤ (i : Int) := by have q_ := of_decide_eq_false t24b; omega
      refine WC.cond_false rfl ?_
      refine WC.exit ?_
      refine QX.then_exit ?_
      refine QX.then_exit ?_
      refine QX.block_hit ?_
      refine QX.then_normal (hK11 _ _ ?_)
      refine WC.seq (fun K51 hK52 => ?_)
      refine WC.region ?_
      refine WL.runs 1 [(4, .bool true)] (fun _ => by kernel_rfl) ?_
      refine WL.done rfl ?_
      refine QX.then_normal (hK52 _ _ ?_)
      refine WC.ret ?_
      refine (hret _ _ _ rfl ?_).1
      clear hN hret hret' hK52 hK23 hK21 hK13 hK11 hK6 hK4 hK2
      exact ⟨by rw [decide_eq_true (ints_end htk (by omega) (by omega))]; rfl, hC19.fr⟩

theorem Ints_n (A B : Option Addr) (n c n2 c2 : Nat) (xs ys : List Int) (w : World) (hA : Rd w 1 (Go.Tw.encI .i64) A xs) (hn : xs.length = n) (h1 : xs.length ≤ 9223372036854775807) (hB : Rd w 1 (Go.Tw.encI .i64) B ys) (hn2 : ys.length = n2) (h2 : ys.length ≤ 9223372036854775807) : Calls Try.prog 16 #[.slice A n c, .slice B n2 c2] w fun e w' => e = .returned (.bool (decide (xs = ys))) ∧ Fr w w' [] := by subst hn hn2; exact Ints_ct A B c c2 xs ys w hA hB h1 h2
theorem New_z (n : Int) (w : World) (h0 : 1 ≤ n) (h1 : n ≤ 1024) : Calls Try.prog 10 #[.int .i64 n] w fun e w' => ∃ p F, e = .returned (.tuple #[.pointer (some ⟨p, 0, none⟩), .nilIface]) ∧ Fr w w' [] ∧ whAt w' F p n.toNat [] 0 ∧ ∀ x ∈ F, w.heap.size ≤ x := by
  obtain ⟨k, rfl⟩ := Int.eq_ofNat_of_zero_le (show 0 ≤ n by omega)
  exact New_ct k w (by omega) (by omega)
theorem Set_to (F : List Nat) (p N : Nat) (m : List (Int × Int)) (hand a : Int) (A : Option Addr) (n c : Nat) (ks : List Int) (w : World) (m2 : List (Int × Int)) (hand2 : Int) (hm2 : setL m a ks = m2) (hh2 : setH hand a ks = hand2) (ht : whAt w F p N m hand) (ha0 : 0 ≤ a) (ha1 : a ≤ 1099511627776) (hkl : m.length + ks.length ≤ 1099511627776) (hks : Rd w 1 (Go.Tw.encI .i64) A ks) (hn : ks.length = n) (hkl2 : ks.length ≤ 9223372036854775807) (hAF : ∀ b off, A = some ⟨b, off, none⟩ → ks ≠ [] → b ∉ F) : Calls Try.prog 11 #[.pointer (some ⟨p, 0, none⟩), .int .i64 a, .slice A n c] w fun e w' => ∃ F2, e = .returned .nilIface ∧ Fr w w' F ∧ whAt w' F2 p N m2 hand2 ∧ ∀ x ∈ F2, x ∈ F ∨ w.heap.size ≤ x := by subst hm2 hh2; exact Set_n F p N m hand a A n c ks w ht ha0 ha1 hkl hks hn hAF
theorem Due_to (F : List Nat) (p N : Nat) (m : List (Int × Int)) (hand now : Int) (w : World) (K : List Int) (m2 : List (Int × Int)) (hand2 : Int) (hK : dueK m now = K) (hm2 : canL m K = m2) (hh2 : dueH hand now = hand2) (ht : whAt w F p N m hand) (hh0 : 0 ≤ hand) (hh1 : hand ≤ 1099511627776) (hnb : now ≤ 9223372036854775807) (hhm : ∀ t ∈ m, hand ≤ t.2) (hml : m.length ≤ 1099511627776) : Calls Try.prog 12 #[.pointer (some ⟨p, 0, none⟩), .int .i64 now] w fun e w' => ∃ v F2, e = .returned v ∧ Fr w w' F ∧ whAt w' F2 p N m2 hand2 ∧ (∀ x ∈ F2, x ∈ F ∨ w.heap.size ≤ x) ∧ w'.ownsRow w.heap.size 3 1 v K.length (K.flatMap (Go.Tw.encI .i64)) ∧ ∀ x ∈ blk v, x ∉ F2 := by subst hm2 hh2 hK; exact Due_ct F p N m hand now w ht hh0 hh1 hnb hhm hml
theorem alive_ct  (w : World) : Calls Try.prog 9 #[] w fun e w' => e = .returned (.bool true) ∧ Fr w w' [] := by
  refine enterD (n := 60) Try.func9 rfl rfl (Nat.le_of_ble_eq_true rfl) ?_
  intro Q0 hN hret hret'
  have hC := Cx.start w
  refine WC.seq (fun K1 hK2 => ?_)
  refine WC.region ?_
  refine WL.runs 1 [(0, .bool false)] (fun _ => by kernel_rfl) ?_
  refine WL.done rfl ?_
  refine QX.then_normal (hK2 _ _ ?_)
  refine WC.seq (fun K3 hK4 => ?_)
  refine WC.region ?_
  refine WL.call rfl rfl rfl rfl rfl (by kernel_rfl) (New_ct 3 w (by omega) (by omega)) ?_
  rintro _ w10 ⟨p5, F6, rfl, hF9, hT7, hge8⟩
  have hC11 := hC.callN hF9 hge8 (whAt_lt hT7)
  refine ⟨_, rfl, ?_⟩
  refine WL.runs 5 [(2, .nilIface), (1, .pointer (some ⟨p5, 0, none⟩)), (8, .nilIface), (7, .pointer (some ⟨p5, 0, none⟩)), (5, .tuple #[.pointer (some ⟨p5, 0, none⟩), .nilIface])] (fun _ => by kernel_rfl) ?_
  refine WL.done rfl ?_
  refine QX.then_normal (hK4 _ _ ?_)
  refine WC.seq (fun K13 hK14 => ?_)
  refine WC.seq (fun K15 hK16 => ?_)
  refine WC.region ?_
  refine WL.runs 8 [(16, .pointer (some ⟨p5, 0, none⟩)), (15, .bool false), (14, .bool false), (13, .bool false), (12, .pointer (some ⟨p5, 0, none⟩)), (11, .bool false), (10, .bool false), (9, .nilIface)] (fun _ => by kernel_rfl) ?_
  refine WL.newM hC11 (fun b => .slice (some ⟨b, 0, none⟩) 2 2) (.cells #[.int .i64 1, .int .i64 2] 3) 17 (fun _ => by kernel_rfl) (fun g17 w18 hb21 hF19 hC20 => ?_)
  have hf22 := whAt_fr hT7 hF19 (by simp)
  refine WL.call rfl rfl rfl rfl rfl (by kernel_rfl) (Set_to F6 p5 3 ([] : List (Int × Int)) 0 5 (some ⟨g17, 0, none⟩) 2 2 [1, 2] w18 ([(1, 5), (2, 5)] : List (Int × Int)) 0 (by decide) (by decide) hf22 (by omega) (by omega) (by first | (simp; done) | (simp; omega) | omega) (Rd.blk (hC20.get 0 rfl) (Go.Tw.encI_len _) rfl) rfl (by simp) (fun _ _ e_ _ => by cases e_; exact hC20.notin 0 0 rfl rfl)) ?_
  rintro _ w24 ⟨F27, rfl, hF23, hT26, hsub28⟩
  have hT26' : whAt w24 F27 p5 3 ([(1, 5), (2, 5)] : List (Int × Int)) 0 := hT26
  have hC25 := hC20.callF 0 rfl hF23 hsub28 (whAt_lt hT26')
  refine ⟨_, rfl, ?_⟩
  refine WL.runs 4 [(22, .pointer (some ⟨p5, 0, none⟩)), (21, .bool false), (20, .bool false), (19, .bool false)] (fun _ => by kernel_rfl) ?_
  refine WL.newM hC25 (fun b => .slice (some ⟨b, 0, none⟩) 1 1) (.cells #[.int .i64 9] 3) 23 (fun _ => by kernel_rfl) (fun g29 w30 hb33 hF31 hC32 => ?_)
  have hf34 := whAt_fr hT26' hF31 (by simp)
  refine WL.call rfl rfl rfl rfl rfl (by kernel_rfl) (Set_to F27 p5 3 ([(1, 5), (2, 5)] : List (Int × Int)) 0 3 (some ⟨g29, 0, none⟩) 1 1 [9] w30 ([(1, 5), (2, 5), (9, 3)] : List (Int × Int)) 0 (by decide) (by decide) hf34 (by omega) (by omega) (by first | (simp; done) | (simp; omega) | omega) (Rd.blk (hC32.get 1 rfl) (Go.Tw.encI_len _) rfl) rfl (by simp) (fun _ _ e_ _ => by cases e_; exact hC32.notin 0 1 rfl rfl)) ?_
  rintro _ w36 ⟨F39, rfl, hF35, hT38, hsub40⟩
  have hT38' : whAt w36 F39 p5 3 ([(1, 5), (2, 5), (9, 3)] : List (Int × Int)) 0 := hT38
  have hC37 := hC32.callF 0 rfl hF35 hsub40 (whAt_lt hT38')
  refine ⟨_, rfl, ?_⟩
  refine WL.runs 2 [(26, .bool false), (25, .bool false)] (fun _ => by kernel_rfl) ?_
  refine WL.done rfl ?_
  refine QX.then_normal (hK16 _ _ ?_)
  refine WC.cond_false rfl ?_
  refine WC.skip ?_
  refine QX.then_normal (hK14 _ _ ?_)
  refine WC.seq (fun K41 hK42 => ?_)
  refine WC.region ?_
  refine WL.runs 1 [(28, .pointer (some ⟨p5, 0, none⟩))] (fun _ => by kernel_rfl) ?_
  refine WL.call rfl rfl rfl rfl rfl (by kernel_rfl) (Next_ct F39 p5 3 ([(1, 5), (2, 5), (9, 3)] : List (Int × Int)) 0 w36 hT38') ?_
  rintro _ w44 ⟨rfl, hF43⟩
  refine ⟨_, rfl, ?_⟩
  have hC45 := hC37.call hF43
  have hf46 := whAt_fr hT38' hF43 (by simp)
  refine WL.runs 5 [(4, .bool (!List.isEmpty (([(1, 5), (2, 5), (9, 3)] : List (Int × Int)) : List (Int × Int)))), (3, .int .i64 (nextL ([(1, 5), (2, 5), (9, 3)] : List (Int × Int)))), (31, .bool (!List.isEmpty (([(1, 5), (2, 5), (9, 3)] : List (Int × Int)) : List (Int × Int)))), (30, .int .i64 (nextL ([(1, 5), (2, 5), (9, 3)] : List (Int × Int)))), (27, .tuple #[.int .i64 (nextL ([(1, 5), (2, 5), (9, 3)] : List (Int × Int))), .bool (!List.isEmpty (([(1, 5), (2, 5), (9, 3)] : List (Int × Int)) : List (Int × Int)))])] (fun _ => by kernel_rfl) ?_
  refine WL.done rfl ?_
  refine QX.then_normal (hK42 _ _ ?_)
  refine WC.seq (fun K47 hK48 => ?_)
  refine WC.region ?_
  refine WL.runs 2 [(33, .bool (!List.isEmpty (([(1, 5), (2, 5), (9, 3)] : List (Int × Int)) : List (Int × Int)))), (32, .bool (!List.isEmpty (([(1, 5), (2, 5), (9, 3)] : List (Int × Int)) : List (Int × Int))))] (fun _ => by kernel_rfl) ?_
  refine WL.know 33 (.bool (!List.isEmpty (([(1, 5), (2, 5), (9, 3)] : List (Int × Int)) : List (Int × Int)))) (.bool true) rfl (congrArg Value.bool (by decide)) ?_
  refine WL.runs 4 [(37, .bool ((nextL ([(1, 5), (2, 5), (9, 3)] : List (Int × Int))) == 3)), (36, .bool ((nextL ([(1, 5), (2, 5), (9, 3)] : List (Int × Int))) == 3)), (35, .bool ((nextL ([(1, 5), (2, 5), (9, 3)] : List (Int × Int))) == 3)), (34, .int .i64 (nextL ([(1, 5), (2, 5), (9, 3)] : List (Int × Int))))] (fun _ => by kernel_rfl) ?_
  refine WL.know 37 (.bool ((nextL ([(1, 5), (2, 5), (9, 3)] : List (Int × Int))) == 3)) (.bool true) rfl (congrArg Value.bool (by decide)) ?_
  refine WL.runs 1 [(38, .pointer (some ⟨p5, 0, none⟩))] (fun _ => by kernel_rfl) ?_
  refine WL.call rfl rfl rfl rfl rfl (by kernel_rfl) (Due_to F39 p5 3 ([(1, 5), (2, 5), (9, 3)] : List (Int × Int)) 0 2 w44 ([] : List Int) ([(1, 5), (2, 5), (9, 3)] : List (Int × Int)) 2 (dueK_of (D := []) (by decide) (by decide) rfl) (by decide) (by decide) hf46 (by decide) (by decide) (by decide) (by decide) (by decide)) ?_
  rintro _ w56 ⟨v49, F50, rfl, hF51, hT52, hsub53, ho54, hd55⟩
  have hC57 := hC45.callFN 0 rfl hF51 hsub53 (whAt_lt hT52) (own_ge ho54) (own_lt ho54) (fun x_ hx_ h_ => hd55 x_ h_ hx_)
  obtain ⟨A58, c59, rfl, hle60⟩ := own_form ho54
  have ho61 := own_base (b' := 0) ho54 (fun _ _ => Nat.zero_le _)
  refine ⟨_, rfl, ?_⟩
  refine WL.runs 4 [(43, .bool ((([] : List Int).length : Int) == 0)), (42, .bool ((([] : List Int).length : Int) == 0)), (41, .bool ((([] : List Int).length : Int) == 0)), (40, .int .i64 (([] : List Int).length : Int))] (fun _ => by kernel_rfl) ?_
  refine WL.know 43 (.bool ((([] : List Int).length : Int) == 0)) (.bool true) rfl (congrArg Value.bool (by decide)) ?_
  refine WL.runs 1 [(44, .pointer (some ⟨p5, 0, none⟩))] (fun _ => by kernel_rfl) ?_
  refine WL.call rfl rfl rfl rfl rfl (by kernel_rfl) (Due_to F50 p5 3 ([(1, 5), (2, 5), (9, 3)] : List (Int × Int)) 2 4 w56 ([9] : List Int) ([(1, 5), (2, 5)] : List (Int × Int)) 4 (dueK_of (D := [(9, 3)]) (by decide) (by decide) rfl) (by decide) (by decide) hT52 (by decide) (by decide) (by decide) (by decide) (by decide)) ?_
  rintro _ w70 ⟨v63, F64, rfl, hF65, hT66, hsub67, ho68, hd69⟩
  have hC71 := hC57.callFN 0 rfl hF65 hsub67 (whAt_lt hT66) (own_ge ho68) (own_lt ho68) (fun x_ hx_ h_ => hd69 x_ h_ hx_)
  obtain ⟨A72, c73, rfl, hle74⟩ := own_form ho68
  have ho75 := own_base (b' := 0) ho68 (fun _ _ => Nat.zero_le _)
  refine ⟨_, rfl, ?_⟩
  have ho76 := own_fr ho61 hF65 (hC57.disj 1 0 rfl rfl (by decide))
  refine WL.newM hC71 (fun b => .slice (some ⟨b, 0, none⟩) 1 1) (.cells #[.int .i64 9] 3) 46 (fun _ => by kernel_rfl) (fun g78 w79 hb82 hF80 hC81 => ?_)
  have hf83 := whAt_fr hT66 hF80 (by simp)
  have ho84 := own_fr ho76 hF80 (by simp)
  have ho85 := own_fr ho75 hF80 (by simp)
  refine WL.call rfl rfl rfl rfl rfl (by kernel_rfl) (Ints_n A72 (some ⟨g78, 0, none⟩) (([9] : List Int).length) c73 1 1 ([9] : List Int) ([9] : List Int) w79 (own_rd ho85 (Go.Tw.encI_len _) (by decide)) (own_count (Go.Tw.encI_len _) (by decide) ho85) (by rw [own_count (Go.Tw.encI_len _) (by decide) ho85]; exact own_max ho85) (Rd.blk (hC81.get 2 rfl) (Go.Tw.encI_len _) rfl) rfl (by simp)) ?_
  rintro _ w87 ⟨rfl, hF86⟩
  refine ⟨_, rfl, ?_⟩
  have hC88 := hC81.call hF86
  have hf89 := whAt_fr hf83 hF86 (by simp)
  have ho90 := own_fr ho84 hF86 (by simp)
  have ho91 := own_fr ho85 hF86 (by simp)
  refine WL.runs 2 [(49, .bool (decide (([9] : List Int) = ([9] : List Int)))), (48, .bool (decide (([9] : List Int) = ([9] : List Int))))] (fun _ => by kernel_rfl) ?_
  refine WL.know 49 (.bool (decide (([9] : List Int) = ([9] : List Int)))) (.bool true) rfl (congrArg Value.bool (by decide)) ?_
  refine WL.runs 1 [(50, .pointer (some ⟨p5, 0, none⟩))] (fun _ => by kernel_rfl) ?_
  refine WL.call rfl rfl rfl rfl rfl (by kernel_rfl) (Due_to F64 p5 3 ([(1, 5), (2, 5)] : List (Int × Int)) 4 100 w87 ([1, 2] : List Int) ([] : List (Int × Int)) 100 (dueK_of (D := [(1, 5), (2, 5)]) (by decide) (by decide) rfl) (by decide) (by decide) hf89 (by decide) (by decide) (by decide) (by decide) (by decide)) ?_
  rintro _ w99 ⟨v92, F93, rfl, hF94, hT95, hsub96, ho97, hd98⟩
  have hC100 := hC88.callFN 0 rfl hF94 hsub96 (whAt_lt hT95) (own_ge ho97) (own_lt ho97) (fun x_ hx_ h_ => hd98 x_ h_ hx_)
  obtain ⟨A101, c102, rfl, hle103⟩ := own_form ho97
  have ho104 := own_base (b' := 0) ho97 (fun _ _ => Nat.zero_le _)
  refine ⟨_, rfl, ?_⟩
  have ho105 := own_fr ho90 hF94 (hC88.disj 1 0 rfl rfl (by decide))
  have ho106 := own_fr ho91 hF94 (hC88.disj 2 0 rfl rfl (by decide))
  refine WL.newM hC100 (fun b => .slice (some ⟨b, 0, none⟩) 2 2) (.cells #[.int .i64 1, .int .i64 2] 3) 52 (fun _ => by kernel_rfl) (fun g108 w109 hb112 hF110 hC111 => ?_)
  have hf113 := whAt_fr hT95 hF110 (by simp)
  have ho114 := own_fr ho105 hF110 (by simp)
  have ho115 := own_fr ho106 hF110 (by simp)
  have ho116 := own_fr ho104 hF110 (by simp)
  refine WL.call rfl rfl rfl rfl rfl (by kernel_rfl) (Ints_n A101 (some ⟨g108, 0, none⟩) (([1, 2] : List Int).length) c102 2 2 ([1, 2] : List Int) ([1, 2] : List Int) w109 (own_rd ho116 (Go.Tw.encI_len _) (by decide)) (own_count (Go.Tw.encI_len _) (by decide) ho116) (by rw [own_count (Go.Tw.encI_len _) (by decide) ho116]; exact own_max ho116) (Rd.blk (hC111.get 3 rfl) (Go.Tw.encI_len _) rfl) rfl (by simp)) ?_
  rintro _ w118 ⟨rfl, hF117⟩
  refine ⟨_, rfl, ?_⟩
  have hC119 := hC111.call hF117
  have hf120 := whAt_fr hf113 hF117 (by simp)
  have ho121 := own_fr ho114 hF117 (by simp)
  have ho122 := own_fr ho115 hF117 (by simp)
  have ho123 := own_fr ho116 hF117 (by simp)
  refine WL.runs 2 [(55, .bool (decide (([1, 2] : List Int) = ([1, 2] : List Int)))), (54, .bool (decide (([1, 2] : List Int) = ([1, 2] : List Int))))] (fun _ => by kernel_rfl) ?_
  refine WL.know 55 (.bool (decide (([1, 2] : List Int) = ([1, 2] : List Int)))) (.bool true) rfl (congrArg Value.bool (by decide)) ?_
  refine WL.runs 1 [(56, .pointer (some ⟨p5, 0, none⟩))] (fun _ => by kernel_rfl) ?_
  refine WL.call rfl rfl rfl rfl rfl (by kernel_rfl) (Len_ct F93 p5 3 ([] : List (Int × Int)) 100 w118 hf120) ?_
  rintro _ w125 ⟨rfl, hF124⟩
  refine ⟨_, rfl, ?_⟩
  have hC126 := hC119.call hF124
  have hf127 := whAt_fr hf120 hF124 (by simp)
  have ho128 := own_fr ho121 hF124 (by simp)
  have ho129 := own_fr ho122 hF124 (by simp)
  have ho130 := own_fr ho123 hF124 (by simp)
  refine WL.runs 3 [(0, .bool (((([] : List (Int × Int)) : List (Int × Int)).length : Int) == 0)), (59, .bool (((([] : List (Int × Int)) : List (Int × Int)).length : Int) == 0)), (58, .bool (((([] : List (Int × Int)) : List (Int × Int)).length : Int) == 0))] (fun _ => by kernel_rfl) ?_
  refine WL.done rfl ?_
  refine QX.then_normal (hK48 _ _ ?_)
  refine WC.ret ?_
  refine (hret _ _ _ rfl ?_).1
  clear hN hret hret' hK48 hK42 hK16 hK14 hK4 hK2
  exact ⟨congrArg Ending.returned (congrArg Value.bool (by first | rfl | decide)), hC126.fr⟩

theorem WheelNone_ct (key a : Int) (w : World) : Calls Try.prog 8 #[.int .i64 key, .int .i64 a] w fun e w' => e = .returned (.bool true) ∧ Fr w w' [] := by
  refine enterD (n := 57) Try.func8 rfl rfl (Nat.le_of_ble_eq_true rfl) ?_
  intro Q0 hN hret hret'
  have hC := Cx.start w
  refine WC.seq (fun K1 hK2 => ?_)
  refine WC.region ?_
  refine WL.runs 1 [(4, .bool false)] (fun _ => by kernel_rfl) ?_
  refine WL.done rfl ?_
  refine QX.then_normal (hK2 _ _ ?_)
  refine WC.seq (fun K3 hK4 => ?_)
  refine WC.seq (fun K5 hK6 => ?_)
  refine WC.region ?_
  refine WL.call rfl rfl rfl rfl rfl (by kernel_rfl) (alive_ct w) ?_
  rintro _ w8 ⟨rfl, hF7⟩
  refine ⟨_, rfl, ?_⟩
  have hC9 := hC.call hF7
  refine WL.runs 1 [(11, .bool false)] (fun _ => by kernel_rfl) ?_
  refine WL.done rfl ?_
  refine QX.then_normal (hK6 _ _ ?_)
  refine WC.cond_false rfl ?_
  refine WC.skip ?_
  refine QX.then_normal (hK4 _ _ ?_)
  refine WC.seq (fun K10 hK11 => ?_)
  refine WC.region ?_
  refine WL.runs 1 [(5, .pointer none)] (fun _ => by kernel_rfl) ?_
  refine WL.done rfl ?_
  refine QX.then_normal (hK11 _ _ ?_)
  refine WC.seq (fun K12 hK13 => ?_)
  refine WC.region ?_
  refine WL.runs 2 [(14, .int .i64 key), (13, .pointer none)] (fun _ => by kernel_rfl) ?_
  refine WL.call rfl rfl rfl rfl rfl (by kernel_rfl) (At_nil key w8) ?_
  rintro _ w15 ⟨rfl, hF14⟩
  refine ⟨_, rfl, ?_⟩
  have hC16 := hC9.call hF14
  refine WL.runs 5 [(7, .bool false), (6, .int .i64 0), (17, .bool false), (16, .int .i64 0), (12, .tuple #[.int .i64 0, .bool false])] (fun _ => by kernel_rfl) ?_
  refine WL.done rfl ?_
  refine QX.then_normal (hK13 _ _ ?_)
  refine WC.seq (fun K17 hK18 => ?_)
  refine WC.region ?_
  refine WL.runs 1 [(19, .pointer none)] (fun _ => by kernel_rfl) ?_
  refine WL.call rfl rfl rfl rfl rfl (by kernel_rfl) (Next_nil w15) ?_
  rintro _ w20 ⟨rfl, hF19⟩
  refine ⟨_, rfl, ?_⟩
  have hC21 := hC16.call hF19
  refine WL.runs 5 [(9, .bool false), (8, .int .i64 0), (22, .bool false), (21, .int .i64 0), (18, .tuple #[.int .i64 0, .bool false])] (fun _ => by kernel_rfl) ?_
  refine WL.done rfl ?_
  refine QX.then_normal (hK18 _ _ ?_)
  refine WC.seq (fun K22 hK23 => ?_)
  refine WC.region ?_
  refine WL.runs 3 [(25, .int .i64 key), (24, .int .i64 a), (23, .pointer none)] (fun _ => by kernel_rfl) ?_
  refine WL.newM hC21 (fun b => .slice (some ⟨b, 0, none⟩) 1 1) (.cells #[.int .i64 key] 3) 26 (fun _ => by kernel_rfl) (fun g24 w25 hb28 hF26 hC27 => ?_)
  refine WL.call rfl rfl rfl rfl rfl (by kernel_rfl) (Set_nil a (some ⟨g24, 0, none⟩) 1 1 w25) ?_
  rintro _ w30 ⟨rfl, hF29⟩
  refine ⟨_, rfl, ?_⟩
  have hC31 := hC27.call hF29
  refine WL.runs 5 [(32, .int .i64 key), (31, .pointer none), (30, .bool true), (29, .bool true), (28, .iface 45 (.int .i64 4))] (fun _ => by kernel_rfl) ?_
  refine WL.newM hC31 (fun b => .slice (some ⟨b, 0, none⟩) 1 1) (.cells #[.int .i64 key] 3) 33 (fun _ => by kernel_rfl) (fun g32 w33 hb36 hF34 hC35 => ?_)
  refine WL.call rfl rfl rfl rfl rfl (by kernel_rfl) (Cancel_nil (some ⟨g32, 0, none⟩) 1 1 w33) ?_
  rintro _ w38 ⟨rfl, hF37⟩
  refine ⟨_, rfl, ?_⟩
  have hC39 := hC35.call hF37
  refine WL.runs 13 [(47, .int .i64 a), (46, .pointer none), (45, .bool true), (44, .bool true), (43, .bool true), (42, .bool false), (41, .bool true), (40, .bool true), (39, .bool true), (38, .bool false), (37, .bool true), (36, .bool true), (35, .bool true)] (fun _ => by kernel_rfl) ?_
  refine WL.call rfl rfl rfl rfl rfl (by kernel_rfl) (Due_nil a w38) ?_
  rintro _ w41 ⟨rfl, hF40⟩
  refine ⟨_, rfl, ?_⟩
  have hC42 := hC39.call hF40
  refine WL.runs 5 [(53, .pointer none), (52, .bool true), (51, .bool true), (50, .bool true), (49, .int .i64 0)] (fun _ => by kernel_rfl) ?_
  refine WL.call rfl rfl rfl rfl rfl (by kernel_rfl) (Len_nil w41) ?_
  rintro _ w44 ⟨rfl, hF43⟩
  refine ⟨_, rfl, ?_⟩
  have hC45 := hC42.call hF43
  refine WL.runs 3 [(4, .bool true), (56, .bool true), (55, .bool true)] (fun _ => by kernel_rfl) ?_
  refine WL.done rfl ?_
  refine QX.then_normal (hK23 _ _ ?_)
  refine WC.ret ?_
  refine (hret _ _ _ rfl ?_).1
  clear hN hret hret' hK23 hK18 hK13 hK11 hK6 hK4 hK2
  exact ⟨rfl, hC45.fr⟩

end Go.Proofs.Ytkafccgbagbncaa
