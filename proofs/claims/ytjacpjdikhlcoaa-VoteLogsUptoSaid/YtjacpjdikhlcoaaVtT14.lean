/- Contracts of functions of the program, each proved by a walk through its code; conditions stand in the statements. -/
import Derived.Test.YtjacpjdikhlcoaaVtS14
namespace Go.Proofs.Ytjacpjdikhlcoaa
set_option linter.unusedSimpArgs false
set_option linter.unusedVariables false
set_option linter.unusedSectionVars false
open Go Go.RowKit Go.Tw
set_option linter.unusedVariables false
set_option maxRecDepth 20000
theorem EqualC_ct (A B : Option Addr) (c d : Nat) (a b : List Cmd) (w : World) (hA : Rd w 12 cellsC A a) (hB : Rd w 12 cellsC B b) (hLa : ∀ m ∈ a, cmdAt w m) (hLb : ∀ m ∈ b, cmdAt w m) (hla : a.length ≤ 1099511627776) : Calls Try.prog 65 #[.slice A a.length c, .slice B b.length d, .func (.func 59) #[] #[]] w fun e w' => e = .returned (.bool (decide (vals a = vals b))) ∧ Fr w w' [] := by
  refine enterD (n := 32) Try.func65 rfl rfl (Nat.le_of_ble_eq_true rfl) ?_
  intro Q0 hN hret hret'
  have hC := Cx.start w
  refine WC.seq (fun K1 hK2 => ?_)
  refine WC.region ?_
  refine WL.runs 1 [(6, .bool false)] (fun _ => by kernel_rfl) ?_
  refine WL.done rfl ?_
  refine QX.then_normal (hK2 _ _ ?_)
  refine WC.seq (fun K3 hK4 => ?_)
  refine WC.seq (fun K5 hK6 => ?_)
  refine WC.region ?_
  refine WL.runs 5 [(14, .bool ((a.length : Int) != (b.length : Int))), (13, .int .i64 (b.length : Int)), (12, .slice B b.length d), (11, .int .i64 (a.length : Int)), (10, .slice A a.length c)] (fun _ => by kernel_rfl) ?_
  refine WL.done rfl ?_
  refine QX.then_normal (hK6 _ _ ?_)
  refine WC.test_at 14 ((a.length : Int) != (b.length : Int)) rfl (fun t7b => ?_) (fun t7b => ?_)
  · -- (a.length : Int) ≠ (b.length : Int): true
    have t7 : (a.length : Int) ≠ (b.length : Int) := by simpa using t7b
    refine WC.cond_true rfl ?_
    refine WC.seq (fun K8 hK9 => ?_)
    refine WC.region ?_
    refine WL.runs 1 [(6, .bool false)] (fun _ => by kernel_rfl) ?_
    refine WL.done rfl ?_
    refine QX.then_normal (hK9 _ _ ?_)
    refine WC.ret ?_
    refine QX.then_ret ?_
    refine (hret _ _ _ rfl ?_).1
    clear hN hret hret' hK9 hK6 hK4 hK2
    exact ⟨congrArg (fun b_ => Ending.returned (Value.bool b_)) (decide_eq_false (fun e_ => by have z_ := congrArg List.length e_; rw [vals_len, vals_len] at z_; omega)).symm, hC.fr⟩
  · -- (a.length : Int) ≠ (b.length : Int): false
    have t7 : (a.length : Int) = (b.length : Int) := by simpa using t7b
    refine WC.cond_false rfl ?_
    refine WC.skip ?_
    refine QX.then_normal (hK4 _ _ ?_)
    refine WC.seq (fun K10 hK11 => ?_)
    refine WC.seq (fun K12 hK13 => ?_)
    refine WC.region ?_
    refine WL.runs 3 [(17, .int .i64 0), (16, .int .i64 (a.length : Int)), (15, .slice A a.length c)] (fun _ => by kernel_rfl) ?_
    refine WL.done rfl ?_
    refine QX.then_normal (hK13 _ _ ?_)
    refine WC.block ?_
    refine WC.loop (fun m_ E_ w_ => ∃ (i : Nat), m_ = a.length - i ∧ E_ = [(0, .slice A a.length c), (1, .slice B b.length d), (2, .func (.func 59) #[] #[]), (15, .slice A a.length c), (16, .int .i64 (a.length : Int)), (17, .int .i64 (i : Int))] ∧ Cx w [] w_ [] [] ∧ (i ≤ a.length ∧ (vals a).take i = (vals b).take i)) ⟨_, _, ⟨0, rfl, rfl, hC, Nat.zero_le _, rfl⟩, sub_of ⟨rfl, rfl, rfl, rfl, rfl, rfl, trivial⟩⟩ (fun m17 E_ w18 K14 hK15 hI16 => ?_)
    obtain ⟨i, rfl, rfl, hC19, hi, hpre⟩ := hI16
    refine WC.seq (fun K20 hK21 => ?_)
    refine WC.region ?_
    refine WL.runs 1 [(18, .bool (decide ((i : Int) < (a.length : Int))))] (fun _ => by kernel_rfl) ?_
    refine WL.done rfl ?_
    refine QX.then_normal (hK21 _ _ ?_)
    refine WC.seq (fun K22 hK23 => ?_)
    refine WC.test_at 18 (decide ((i : Int) < (a.length : Int))) rfl (fun t24b => ?_) (fun t24b => ?_)
    · -- (i : Int) < (a.length : Int): true
      have t24 : (i : Int) < (a.length : Int) := by have q_ := of_decide_eq_true t24b; omega
      refine WC.cond_true rfl ?_
      refine WC.skip ?_
      refine QX.then_normal (hK23 _ _ ?_)
      refine WC.seq (fun K25 hK26 => ?_)
      refine WC.block ?_
      refine WC.seq (fun K27 hK28 => ?_)
      refine WC.region ?_
      refine WL.runs 1 [(19, .int .i64 (i : Int))] (fun _ => by kernel_rfl) ?_
      obtain ⟨e29, he30⟩ := get_some (xs := a) (i := i) (by omega)
      obtain ⟨b31, o33, hA32, hc34⟩ := hA.at_ _ _ he30
      have hc_e29 := hLa _ (List.mem_of_getElem? he30)
      
      refine WL.index A a.length c 20 .i64 (i : Int) b31 o33 i 12 (by kernel_rfl) hA32 (by omega) (by omega) (o33 + i * 12) (by first | (simp; done) | omega) ?_
      refine WL.load 61 (.pointer (some ⟨b31, o33 + i * 12, none⟩)) (.agg #[.int .i64 e29.v.node, .int .i64 e29.v.boot, .int .i64 e29.v.seq, .int .i64 e29.v.time, .int .i64 e29.v.kind, .int .u32 e29.v.svip, .int .i64 e29.v.sproto, .int .i64 e29.v.sport, .slice e29.a e29.v.ends.length e29.c, .int .u32 e29.v.dip, .int .u32 e29.v.vip, .bool e29.v.up]) 21 (by kernel_rfl) (run_rdN (l := [.int .i64 e29.v.node, .int .i64 e29.v.boot, .int .i64 e29.v.seq, .int .i64 e29.v.time, .int .i64 e29.v.kind, .int .u32 e29.v.svip, .int .i64 e29.v.sproto, .int .i64 e29.v.sport, .slice e29.a e29.v.ends.length e29.c, .int .u32 e29.v.dip, .int .u32 e29.v.vip, .bool e29.v.up]) rfl rfl (fun j u hu => by have hq_ := hC19.fr.cell (hc34 j u hu) (by simp); simpa [Nat.add_assoc] using hq_)) ?_
      refine WL.newM hC19 (fun b => .pointer (some ⟨b, 0, none⟩)) (.cells #[.int .i64 0, .int .i64 0, .int .i64 0, .int .i64 0, .int .i64 0, .int .u32 0, .int .i64 0, .int .i64 0, .slice none 0 0, .int .u32 0, .int .u32 0, .bool false] 61) 8 (fun _ => by kernel_rfl) (fun g35 w36 hb39 hF37 hC38 => ?_)
      refine WL.runs 1 [(7, .int .i64 (i : Int))] (fun _ => by kernel_rfl) ?_
      refine WL.storeM (c' := #[.int .i64 e29.v.node, .int .i64 e29.v.boot, .int .i64 e29.v.seq, .int .i64 e29.v.time, .int .i64 e29.v.kind, .int .u32 e29.v.svip, .int .i64 e29.v.sproto, .int .i64 e29.v.sport, .slice e29.a e29.v.ends.length e29.c, .int .u32 e29.v.dip, .int .u32 e29.v.vip, .bool e29.v.up]) hC38 0 61 g35 0 (.agg #[.int .i64 e29.v.node, .int .i64 e29.v.boot, .int .i64 e29.v.seq, .int .i64 e29.v.time, .int .i64 e29.v.kind, .int .u32 e29.v.svip, .int .i64 e29.v.sproto, .int .i64 e29.v.sport, .slice e29.a e29.v.ends.length e29.c, .int .u32 e29.v.dip, .int .u32 e29.v.vip, .bool e29.v.up]) (by kernel_rfl) rfl (by kernel_rfl) (fun w40 hF42 hC43 => ?_)
      refine WL.done rfl ?_
      refine QX.then_normal (hK28 _ _ ?_)
      refine WC.seq (fun K44 hK45 => ?_)
      refine WC.region ?_
      refine WL.runs 2 [(23, .int .i64 (i : Int)), (22, .slice B b.length d)] (fun _ => by kernel_rfl) ?_
      obtain ⟨e46, he47⟩ := get_some (xs := b) (i := i) (by omega)
      obtain ⟨b48, o50, hA49, hc51⟩ := hB.at_ _ _ he47
      have hc_e46 := hLb _ (List.mem_of_getElem? he47)
      
      refine WL.index B b.length d 24 .i64 (i : Int) b48 o50 i 12 (by kernel_rfl) hA49 (by omega) (by omega) (o50 + i * 12) (by first | (simp; done) | omega) ?_
      refine WL.load 61 (.pointer (some ⟨b48, o50 + i * 12, none⟩)) (.agg #[.int .i64 e46.v.node, .int .i64 e46.v.boot, .int .i64 e46.v.seq, .int .i64 e46.v.time, .int .i64 e46.v.kind, .int .u32 e46.v.svip, .int .i64 e46.v.sproto, .int .i64 e46.v.sport, .slice e46.a e46.v.ends.length e46.c, .int .u32 e46.v.dip, .int .u32 e46.v.vip, .bool e46.v.up]) 25 (by kernel_rfl) (run_rdN (l := [.int .i64 e46.v.node, .int .i64 e46.v.boot, .int .i64 e46.v.seq, .int .i64 e46.v.time, .int .i64 e46.v.kind, .int .u32 e46.v.svip, .int .i64 e46.v.sproto, .int .i64 e46.v.sport, .slice e46.a e46.v.ends.length e46.c, .int .u32 e46.v.dip, .int .u32 e46.v.vip, .bool e46.v.up]) rfl rfl (fun j u hu => by have hq_ := hC43.fr.cell (hc51 j u hu) (by simp); simpa [Nat.add_assoc] using hq_)) ?_
      refine WL.newM hC43 (fun b => .pointer (some ⟨b, 0, none⟩)) (.cells #[.int .i64 0, .int .i64 0, .int .i64 0, .int .i64 0, .int .i64 0, .int .u32 0, .int .i64 0, .int .i64 0, .slice none 0 0, .int .u32 0, .int .u32 0, .bool false] 61) 9 (fun _ => by kernel_rfl) (fun g52 w53 hb56 hF54 hC55 => ?_)
      refine WL.storeM (c' := #[.int .i64 e46.v.node, .int .i64 e46.v.boot, .int .i64 e46.v.seq, .int .i64 e46.v.time, .int .i64 e46.v.kind, .int .u32 e46.v.svip, .int .i64 e46.v.sproto, .int .i64 e46.v.sport, .slice e46.a e46.v.ends.length e46.c, .int .u32 e46.v.dip, .int .u32 e46.v.vip, .bool e46.v.up]) hC55 1 61 g52 0 (.agg #[.int .i64 e46.v.node, .int .i64 e46.v.boot, .int .i64 e46.v.seq, .int .i64 e46.v.time, .int .i64 e46.v.kind, .int .u32 e46.v.svip, .int .i64 e46.v.sproto, .int .i64 e46.v.sport, .slice e46.a e46.v.ends.length e46.c, .int .u32 e46.v.dip, .int .u32 e46.v.vip, .bool e46.v.up]) (by kernel_rfl) rfl (by kernel_rfl) (fun w57 hF59 hC60 => ?_)
      refine WL.done rfl ?_
      refine QX.then_normal (hK45 _ _ ?_)
      refine WC.seq (fun K61 hK62 => ?_)
      refine WC.region ?_
      refine WL.runs 1 [(26, .func (.func 59) #[] #[])] (fun _ => by kernel_rfl) ?_
      refine WL.load 61 (.pointer (some ⟨g35, 0, none⟩)) (.agg #[.int .i64 e29.v.node, .int .i64 e29.v.boot, .int .i64 e29.v.seq, .int .i64 e29.v.time, .int .i64 e29.v.kind, .int .u32 e29.v.svip, .int .i64 e29.v.sproto, .int .i64 e29.v.sport, .slice e29.a e29.v.ends.length e29.c, .int .u32 e29.v.dip, .int .u32 e29.v.vip, .bool e29.v.up]) 27 (by kernel_rfl) (run_ld (hC60.get 0 rfl) rfl) ?_
      refine WL.load 61 (.pointer (some ⟨g52, 0, none⟩)) (.agg #[.int .i64 e46.v.node, .int .i64 e46.v.boot, .int .i64 e46.v.seq, .int .i64 e46.v.time, .int .i64 e46.v.kind, .int .u32 e46.v.svip, .int .i64 e46.v.sproto, .int .i64 e46.v.sport, .slice e46.a e46.v.ends.length e46.c, .int .u32 e46.v.dip, .int .u32 e46.v.vip, .bool e46.v.up]) 28 (by kernel_rfl) (run_ld (hC60.get 1 rfl) rfl) ?_
      refine WL.call rfl rfl rfl rfl rfl (by kernel_rfl) (like_ct e29 e46 w57 (cmdAt.fr0 hc_e29 hC60.fr) (cmdAt.fr0 hc_e46 hC60.fr)) ?_
      rintro _ w64 ⟨rfl, hF63⟩
      refine ⟨_, rfl, ?_⟩
      have hC65 := hC60.call hF63
      refine WL.runs 1 [(30, .bool (!(decide (e29.v = e46.v))))] (fun _ => by kernel_rfl) ?_
      refine WL.done rfl ?_
      refine QX.then_normal (hK62 _ _ ?_)
      refine WC.test_at 30 (!(decide (e29.v = e46.v))) rfl (fun t66b => ?_) (fun t66b => ?_)
      · -- (!(decide (e29.v = e46.v))) = true: true
        have t66 : (decide (e29.v = e46.v)) = false := by first | (simpa only [Bool.not_eq_true', Bool.not_eq_false'] using t66b) | simpa using t66b
        refine WC.cond_true rfl ?_
        refine WC.seq (fun K67 hK68 => ?_)
        refine WC.region ?_
        refine WL.runs 1 [(6, .bool false)] (fun _ => by kernel_rfl) ?_
        refine WL.done rfl ?_
        refine QX.then_normal (hK68 _ _ ?_)
        refine WC.ret ?_
        refine QX.block_ret ?_
        refine QX.then_ret ?_
        refine QX.then_ret ?_
        refine QX.block_ret ?_
        refine QX.then_ret ?_
        refine (hret _ _ _ rfl ?_).1
        clear hN hret hret' hK68 hK62 hK45 hK28 hK26 hK23 hK21 hK13 hK11 hK6 hK4 hK2
        exact ⟨congrArg (fun b_ => Ending.returned (Value.bool b_)) (same_miss he30 he47 (by simpa using t66b)).symm, hC65.fr⟩
      · -- (!(decide (e29.v = e46.v))) = true: false
        have t66 : (decide (e29.v = e46.v)) = true := by first | (simpa only [Bool.not_eq_true', Bool.not_eq_false'] using t66b) | simpa using t66b
        refine WC.cond_false rfl ?_
        refine WC.skip ?_
        refine QX.block_normal ?_
        refine QX.then_normal (hK26 _ _ ?_)
        refine WC.region ?_
        refine WL.runs 1 [(31, .int .i64 (IntKind.i64.wrap ((i : Int) + 1)))] (fun _ => by kernel_rfl) ?_
        refine WL.recast (show (.int .i64 (IntKind.i64.wrap ((i : Int) + 1)) : Value) = .int .i64 ((i : Int) + 1) from by rw [wrap_in_i64 ((i : Int) + 1) (by omega) (by omega)]) ?_
        refine WL.runs 1 [(17, .int .i64 ((i : Int) + 1))] (fun _ => by kernel_rfl) ?_
        refine WL.done rfl ?_
        refine QX.then_normal ?_
        have hC69 := hC65.pick [] [] rfl rfl
        refine fun a_ ha_ => hK15 _ _ _ ?_ ⟨i + 1, rfl, rfl, hC69, by omega, same_snoc hpre he30 he47 (by simpa using t66b)⟩ a_ (ha_.weaken (sub_of ⟨rfl, rfl, rfl, rfl, rfl, rfl, trivial⟩))
        omega
    · -- (i : Int) < (a.length : Int): false
      have t24 : (a.length : Int) ≤ (i : Int) := by have q_ := of_decide_eq_false t24b; omega
      refine WC.cond_false rfl ?_
      refine WC.exit ?_
      refine QX.then_exit ?_
      refine QX.then_exit ?_
      refine QX.block_hit ?_
      refine QX.then_normal (hK11 _ _ ?_)
      refine WC.seq (fun K70 hK71 => ?_)
      refine WC.region ?_
      refine WL.runs 1 [(6, .bool true)] (fun _ => by kernel_rfl) ?_
      refine WL.done rfl ?_
      refine QX.then_normal (hK71 _ _ ?_)
      refine WC.ret ?_
      refine (hret _ _ _ rfl ?_).1
      clear hN hret hret' hK71 hK23 hK21 hK13 hK11 hK6 hK4 hK2
      have hie_ : i = a.length := by omega
      rw [List.take_of_length_le (by rw [vals_len]; omega), List.take_of_length_le (by rw [vals_len]; omega)] at hpre
      exact ⟨congrArg (fun b_ => Ending.returned (Value.bool b_)) (decide_eq_true hpre).symm, hC19.fr⟩

theorem EqualC_n (A B : Option Addr) (n c k d : Nat) (a b : List Cmd) (w : World) (hA : Rd w 12 cellsC A a) (hB : Rd w 12 cellsC B b) (hna : a.length = n) (hnb : b.length = k) (hLa : ∀ m ∈ a, cmdAt w m) (hLb : ∀ m ∈ b, cmdAt w m) (hla : n ≤ 1099511627776) : Calls Try.prog 65 #[.slice A n c, .slice B k d, .func (.func 59) #[] #[]] w fun e w' => e = .returned (.bool (decide (vals a = vals b))) ∧ Fr w w' [] := by subst hna hnb; exact EqualC_ct A B c d a b w hA hB hLa hLb hla
theorem SameV_ct (A B : Option Addr) (c d : Nat) (a b : List Cmd) (w : World) (hA : Rd w 12 cellsC A a) (hB : Rd w 12 cellsC B b) (hLa : ∀ m ∈ a, cmdAt w m) (hLb : ∀ m ∈ b, cmdAt w m) (hla : a.length ≤ 1099511627776) : Calls Try.prog 32 #[.slice A a.length c, .slice B b.length d] w fun e w' => e = .returned (.bool (decide (vals a = vals b))) ∧ Fr w w' [] := by
  refine enterD (n := 8) Try.func32 rfl rfl (Nat.le_of_ble_eq_true rfl) ?_
  intro Q0 hN hret hret'
  have hC := Cx.start w
  refine WC.seq (fun K1 hK2 => ?_)
  refine WC.region ?_
  refine WL.runs 1 [(4, .bool false)] (fun _ => by kernel_rfl) ?_
  refine WL.done rfl ?_
  refine QX.then_normal (hK2 _ _ ?_)
  refine WC.seq (fun K3 hK4 => ?_)
  refine WC.region ?_
  refine WL.runs 2 [(6, .slice B b.length d), (5, .slice A a.length c)] (fun _ => by kernel_rfl) ?_
  refine WL.call rfl rfl rfl rfl rfl (by kernel_rfl) (EqualC_n A B a.length c b.length d a b w (Rd.fr hA hC.fr) (Rd.fr hB hC.fr) rfl rfl (fun m_ h_ => cmdAt.fr0 (hLa m_ h_) hC.fr) (fun m_ h_ => cmdAt.fr0 (hLb m_ h_) hC.fr) hla) ?_
  rintro _ w6 ⟨rfl, hF5⟩
  refine ⟨_, rfl, ?_⟩
  have hC7 := hC.call hF5
  refine WL.runs 1 [(4, .bool (decide (vals a = vals b)))] (fun _ => by kernel_rfl) ?_
  refine WL.done rfl ?_
  refine QX.then_normal (hK4 _ _ ?_)
  refine WC.ret ?_
  refine (hret _ _ _ rfl ?_).1
  clear hN hret hret' hK4 hK2
  exact ⟨rfl, hC7.fr⟩

theorem SameV_n (A B : Option Addr) (n c k d : Nat) (a b : List Cmd) (w : World) (hA : Rd w 12 cellsC A a) (hB : Rd w 12 cellsC B b) (hna : a.length = n) (hnb : b.length = k) (hLa : ∀ m ∈ a, cmdAt w m) (hLb : ∀ m ∈ b, cmdAt w m) (hla : n ≤ 1099511627776) : Calls Try.prog 32 #[.slice A n c, .slice B k d] w fun e w' => e = .returned (.bool (decide (vals a = vals b))) ∧ Fr w w' [] := by subst hna hnb; exact SameV_ct A B c d a b w hA hB hLa hLb hla
theorem vals_wf {w : World} {L : List Cmd} (h : ∀ m ∈ L, cmdAt w m) : ∀ v ∈ vals L, wfC v := by
  intro v hv
  obtain ⟨m, hm, rfl⟩ := List.mem_map.1 hv
  exact (h m hm).wf
set_option maxHeartbeats 2000000 in
theorem VoteLogs_ct (A : Option Addr) (c : Nat) (L : List Cmd) (w : World) (hr : Rd w 12 cellsC A L) (hL : ∀ m ∈ L, cmdAt w m) (hll : L.length ≤ 9223372036854775807) : Calls Try.prog 6 #[.slice A L.length c] w fun e w' => e = .returned (.bool true) ∧ Fr w w' [] := by
  refine enterD (n := 83) Try.func6 rfl rfl (Nat.le_of_ble_eq_true rfl) ?_
  intro Q0 hN hret hret'
  have hC := Cx.start w
  refine WC.seq (fun K1 hK2 => ?_)
  refine WC.region ?_
  refine WL.runs 1 [(2, .bool false)] (fun _ => by kernel_rfl) ?_
  refine WL.done rfl ?_
  refine QX.then_normal (hK2 _ _ ?_)
  refine WC.seq (fun K3 hK4 => ?_)
  refine WC.seq (fun K5 hK6 => ?_)
  refine WC.region ?_
  refine WL.call rfl rfl rfl rfl rfl (by kernel_rfl) (alive_ct w) ?_
  rintro _ w8 ⟨rfl, hF7⟩
  refine ⟨_, rfl, ?_⟩
  have hC9 := hC.call hF7
  refine WL.runs 1 [(12, .bool false)] (fun _ => by kernel_rfl) ?_
  refine WL.done rfl ?_
  refine QX.then_normal (hK6 _ _ ?_)
  refine WC.cond_false rfl ?_
  refine WC.skip ?_
  refine QX.then_normal (hK4 _ _ ?_)
  refine WC.seq (fun K10 hK11 => ?_)
  refine WC.seq (fun K12 hK13 => ?_)
  refine WC.region ?_
  refine WL.runs 1 [(13, .slice A L.length c)] (fun _ => by kernel_rfl) ?_
  refine WL.call rfl rfl rfl rfl rfl (by kernel_rfl) (large_ct A c L w8 (Rd.fr hr hC9.fr) (fun m_ h_ => cmdAt.fr0 (hL m_ h_) hC9.fr) hll) ?_
  rintro _ w17 ⟨lgb14, rfl, hF16, hlg15⟩
  refine ⟨_, rfl, ?_⟩
  have hC18 := hC9.call hF16
  refine WL.done rfl ?_
  refine QX.then_normal (hK13 _ _ ?_)
  refine WC.test_at 14 (lgb14) rfl (fun t19b => ?_) (fun t19b => ?_)
  · -- lgb14 = true: true
    refine WC.cond_true rfl ?_
    refine WC.seq (fun K20 hK21 => ?_)
    refine WC.region ?_
    refine WL.runs 1 [(2, .bool true)] (fun _ => by kernel_rfl) ?_
    refine WL.done rfl ?_
    refine QX.then_normal (hK21 _ _ ?_)
    refine WC.ret ?_
    refine QX.then_ret ?_
    refine (hret _ _ _ rfl ?_).1
    clear hN hret hret' hK21 hK13 hK11 hK6 hK4 hK2
    exact ⟨rfl, hC18.fr⟩
  · -- lgb14 = true: false
    refine WC.cond_false rfl ?_
    refine WC.skip ?_
    refine QX.then_normal (hK11 _ _ ?_)
    refine WC.seq (fun K22 hK23 => ?_)
    refine WC.region ?_
    refine WL.runs 1 [(15, .slice A L.length c)] (fun _ => by kernel_rfl) ?_
    have htl_ := totE_len L
    have htb_ := hlg15 (by assumption)
    refine WL.call rfl rfl rfl rfl rfl (by kernel_rfl) (RCopy_ct A c L w17 (Rd.fr hr hC18.fr) (fun m_ h_ => cmdAt.fr0 (hL m_ h_) hC18.fr) (by omega)) ?_
    rintro _ w29 ⟨A24, c25, L26, R27, rfl, hF28, ho30, hli31, hvv32, hRg33, hdd34⟩
    have hC35 := callNN hC18 hF28 (own_ge ho30) (own_lt ho30) (fun x_ h_ => (hRg33 x_ h_).1) (fun x_ h_ => (hRg33 x_ h_).2) hdd34
    have ho36 := own_base (b' := 0) ho30 (fun _ _ => Nat.zero_le _)
    refine ⟨_, rfl, ?_⟩
    refine WL.runs 1 [(3, .slice A24 L26.length c25)] (fun _ => by kernel_rfl) ?_
    refine WL.done rfl ?_
    refine QX.then_normal (hK23 _ _ ?_)
    refine WC.seq (fun K38 hK39 => ?_)
    refine WC.region ?_
    refine WL.runs 1 [(18, .slice A24 L26.length c25)] (fun _ => by kernel_rfl) ?_
    refine WL.call rfl rfl rfl rfl rfl (by kernel_rfl) (Write_n A24 L26.length c25 L26 w29 (own_rd ho36 cellsC_len (by decide)) (own_count cellsC_len (by decide) ho36) (fun m_ h_ => hli31.at_ m_ h_) (by have z2_ := totE_vals hvv32; omega)) ?_
    rintro _ w42 ⟨v_, rfl, hF41, ho40⟩
    have hC43 := hC35.callN hF41 (own_ge ho40) (own_lt ho40)
    obtain ⟨A44, c45, rfl, hle46⟩ := own_form ho40
    have ho48 := own_base (b' := 0) ho40 (fun _ _ => Nat.zero_le _)
    refine ⟨_, rfl, ?_⟩
    have ho49 := own_fr ho36 hF41 (by simp)
    have hl50 := logIn.fr hli31 hF41 (by simp)
    refine WL.runs 5 [(5, errV 35 (if goodL (vals L26) then 0 else 9)), (4, .slice A44 ((if goodL (vals L26) then bytesL (vals L26) else []).length) c45), (21, errV 35 (if goodL (vals L26) then 0 else 9)), (20, .slice A44 ((if goodL (vals L26) then bytesL (vals L26) else []).length) c45), (17, .tuple #[.slice A44 ((if goodL (vals L26) then bytesL (vals L26) else []).length) c45, errV 35 (if goodL (vals L26) then 0 else 9)])] (fun _ => by kernel_rfl) ?_
    refine WL.done rfl ?_
    refine QX.then_normal (hK39 _ _ ?_)
    refine WC.seq (fun K52 hK53 => ?_)
    refine WC.region ?_
    refine WL.runs 1 [(23, .slice A L.length c)] (fun _ => by kernel_rfl) ?_
    refine WL.call rfl rfl rfl rfl rfl (by kernel_rfl) (RWrite_n A L.length c L w42 (Rd.fr hr hC43.fr) (by first | rfl | assumption | omega) (fun m_ h_ => cmdAt.fr0 (hL m_ h_) hC43.fr) (by omega)) ?_
    rintro _ w56 ⟨v_, rfl, hF55, ho54⟩
    have hC57 := hC43.callN hF55 (own_ge ho54) (own_lt ho54)
    obtain ⟨A58, c59, rfl, hle60⟩ := own_form ho54
    have ho62 := own_base (b' := 0) ho54 (fun _ _ => Nat.zero_le _)
    refine ⟨_, rfl, ?_⟩
    have ho63 := own_fr ho49 hF55 (by simp)
    have hl64 := logIn.fr hl50 hF55 (by simp)
    have ho65 := own_fr ho48 hF55 (by simp)
    refine WL.runs 5 [(7, .int .i64 (if goodL (vals L) then (0 : Int) else 9)), (6, .slice A58 ((if goodL (vals L) then bytesL (vals L) else []).length) c59), (26, .int .i64 (if goodL (vals L) then (0 : Int) else 9)), (25, .slice A58 ((if goodL (vals L) then bytesL (vals L) else []).length) c59), (22, .tuple #[.slice A58 ((if goodL (vals L) then bytesL (vals L) else []).length) c59, .int .i64 (if goodL (vals L) then (0 : Int) else 9)])] (fun _ => by kernel_rfl) ?_
    refine WL.done rfl ?_
    refine QX.then_normal (hK53 _ _ ?_)
    refine WC.seq (fun K67 hK68 => ?_)
    refine WC.seq (fun K69 hK70 => ?_)
    refine WC.region ?_
    refine WL.runs 1 [(27, .slice A44 ((if goodL (vals L26) then bytesL (vals L26) else []).length) c45)] (fun _ => by kernel_rfl) ?_
    refine WL.sem (convert 22 9 (.slice A44 ((if goodL (vals L26) then bytesL (vals L26) else []).length) c45)) 28 (.string (strOfNums (if goodL (vals L26) then bytesL (vals L26) else []))) (by kernel_rfl) (run_bytes_str rfl rfl rfl (own_rd ho65 (Go.Tw.encI_len _) (by decide)) (own_count (Go.Tw.encI_len _) (by decide) ho65)) ?_
    refine WL.runs 1 [(29, .slice A58 ((if goodL (vals L) then bytesL (vals L) else []).length) c59)] (fun _ => by kernel_rfl) ?_
    refine WL.sem (convert 22 9 (.slice A58 ((if goodL (vals L) then bytesL (vals L) else []).length) c59)) 30 (.string (strOfNums (if goodL (vals L) then bytesL (vals L) else []))) (by kernel_rfl) (run_bytes_str rfl rfl rfl (own_rd ho62 (Go.Tw.encI_len _) (by decide)) (own_count (Go.Tw.encI_len _) (by decide) ho62)) ?_
    refine WL.runs 1 [(31, .bool (!((strOfNums (if goodL (vals L26) then bytesL (vals L26) else [])).toList == (strOfNums (if goodL (vals L) then bytesL (vals L) else [])).toList)))] (fun _ => by kernel_rfl) ?_
    refine WL.recast (show (.bool (!((strOfNums (if goodL (vals L26) then bytesL (vals L26) else [])).toList == (strOfNums (if goodL (vals L) then bytesL (vals L) else [])).toList)) : Value) = .bool (!decide ((strOfNums (if goodL (vals L26) then bytesL (vals L26) else [])) = (strOfNums (if goodL (vals L) then bytesL (vals L) else [])))) from by rw [str_eql]) ?_
    refine WL.runs 1 [(32, .bool (!decide ((strOfNums (if goodL (vals L26) then bytesL (vals L26) else [])) = (strOfNums (if goodL (vals L) then bytesL (vals L) else [])))))] (fun _ => by kernel_rfl) ?_
    refine WL.know 32 (.bool (!decide ((strOfNums (if goodL (vals L26) then bytesL (vals L26) else [])) = (strOfNums (if goodL (vals L) then bytesL (vals L) else []))))) (.bool false) rfl (congrArg Value.bool (by simp [hvv32])) ?_
    refine WL.runs 1 [(33, errV 35 (if goodL (vals L26) then 0 else 9))] (fun _ => by kernel_rfl) ?_
    refine WL.call rfl rfl rfl rfl rfl (by kernel_rfl) (Num_ct (if goodL (vals L26) then 0 else 9) w56) ?_
    rintro _ w72 ⟨rfl, hF71⟩
    refine ⟨_, rfl, ?_⟩
    have hC73 := hC57.call hF71
    have ho74 := own_fr ho63 hF71 (by simp)
    have hl75 := logIn.fr hl64 hF71 (by simp)
    have ho76 := own_fr ho65 hF71 (by simp)
    have ho77 := own_fr ho62 hF71 (by simp)
    refine WL.runs 4 [(38, .bool ((if goodL (vals L26) then 0 else 9 : Int) != (if goodL (vals L) then (0 : Int) else 9))), (37, .bool ((if goodL (vals L26) then 0 else 9 : Int) != (if goodL (vals L) then (0 : Int) else 9))), (36, .bool ((if goodL (vals L26) then 0 else 9 : Int) != (if goodL (vals L) then (0 : Int) else 9))), (35, .int .i64 (if goodL (vals L) then (0 : Int) else 9))] (fun _ => by kernel_rfl) ?_
    refine WL.know 38 (.bool ((if goodL (vals L26) then 0 else 9 : Int) != (if goodL (vals L) then (0 : Int) else 9))) (.bool false) rfl (congrArg Value.bool (by simp [hvv32])) ?_
    refine WL.runs 1 [(39, .slice A24 L26.length c25)] (fun _ => by kernel_rfl) ?_
    refine WL.call rfl rfl rfl rfl rfl (by kernel_rfl) (CheckLog_n A24 L26.length c25 L26 w72 (own_rd ho74 cellsC_len (by decide)) (own_count cellsC_len (by decide) ho74) (fun m_ h_ => hl75.at_ m_ h_)) ?_
    rintro _ w79 ⟨rfl, hF78⟩
    refine ⟨_, rfl, ?_⟩
    have hC80 := hC73.call hF78
    have ho81 := own_fr ho74 hF78 (by simp)
    have hl82 := logIn.fr hl75 hF78 (by simp)
    have ho83 := own_fr ho76 hF78 (by simp)
    have ho84 := own_fr ho77 hF78 (by simp)
    refine WL.call rfl rfl rfl rfl rfl (by kernel_rfl) (Num_ct (if goodL (vals L26) then 0 else 9) w79) ?_
    rintro _ w86 ⟨rfl, hF85⟩
    refine ⟨_, rfl, ?_⟩
    have hC87 := hC80.call hF85
    have ho88 := own_fr ho81 hF85 (by simp)
    have hl89 := logIn.fr hl82 hF85 (by simp)
    have ho90 := own_fr ho83 hF85 (by simp)
    have ho91 := own_fr ho84 hF85 (by simp)
    refine WL.runs 4 [(45, .bool ((if goodL (vals L26) then 0 else 9 : Int) != (if goodL (vals L) then (0 : Int) else 9))), (44, .bool ((if goodL (vals L26) then 0 else 9 : Int) != (if goodL (vals L) then (0 : Int) else 9))), (43, .bool ((if goodL (vals L26) then 0 else 9 : Int) != (if goodL (vals L) then (0 : Int) else 9))), (42, .int .i64 (if goodL (vals L) then (0 : Int) else 9))] (fun _ => by kernel_rfl) ?_
    refine WL.know 45 (.bool ((if goodL (vals L26) then 0 else 9 : Int) != (if goodL (vals L) then (0 : Int) else 9))) (.bool false) rfl (congrArg Value.bool (by simp [hvv32])) ?_
    refine WL.runs 2 [(47, .slice A L.length c), (46, .slice A24 L26.length c25)] (fun _ => by kernel_rfl) ?_
    refine WL.call rfl rfl rfl rfl rfl (by kernel_rfl) (RSame_n A24 A L26.length c25 L.length c L26 L w86 (own_rd ho88 cellsC_len (by decide)) (Rd.fr hr hC87.fr) rfl rfl (fun m_ h_ => hl89.at_ m_ h_) (fun m_ h_ => cmdAt.fr0 (hL m_ h_) hC87.fr) (by have z1_ := totE_len L26; have z2_ := totE_vals hvv32; omega)) ?_
    rintro _ w93 ⟨rfl, hF92⟩
    refine ⟨_, rfl, ?_⟩
    have hC94 := hC87.call hF92
    have ho95 := own_fr ho88 hF92 (by simp)
    have hl96 := logIn.fr hl89 hF92 (by simp)
    have ho97 := own_fr ho90 hF92 (by simp)
    have ho98 := own_fr ho91 hF92 (by simp)
    refine WL.runs 2 [(50, .bool (!(decide (vals L26 = vals L)))), (49, .bool (!(decide (vals L26 = vals L))))] (fun _ => by kernel_rfl) ?_
    refine WL.done rfl ?_
    refine QX.then_normal (hK70 _ _ ?_)
    refine WC.know 50 (.bool (!(decide (vals L26 = vals L)))) (.bool false) rfl (congrArg Value.bool (by simp [hvv32])) ?_
    refine WC.cond_false rfl ?_
    refine WC.skip ?_
    refine QX.then_normal (hK68 _ _ ?_)
    refine WC.seq (fun K99 hK100 => ?_)
    refine WC.seq (fun K101 hK102 => ?_)
    refine WC.region ?_
    refine WL.runs 3 [(53, .int .i64 0), (52, .int .i64 (L26.length : Int)), (51, .slice A24 L26.length c25)] (fun _ => by kernel_rfl) ?_
    refine WL.done rfl ?_
    refine QX.then_normal (hK102 _ _ ?_)
    refine WC.block ?_
    refine WC.loop (fun m_ E_ w_ => ∃ (i : Nat), m_ = L26.length - i ∧ E_ = [(0, .slice A L.length c), (3, .slice A24 L26.length c25), (4, .slice A44 ((if goodL (vals L26) then bytesL (vals L26) else []).length) c45), (5, errV 35 (if goodL (vals L26) then 0 else 9)), (6, .slice A58 ((if goodL (vals L) then bytesL (vals L) else []).length) c59), (7, .int .i64 (if goodL (vals L) then (0 : Int) else 9)), (51, .slice A24 L26.length c25), (52, .int .i64 (L26.length : Int)), (53, .int .i64 (i : Int))] ∧ Cx w [] w_ [] [blk (.slice A24 L26.length c25), R27, blk (.slice A44 ((if goodL (vals L26) then bytesL (vals L26) else []).length) c45), blk (.slice A58 ((if goodL (vals L) then bytesL (vals L) else []).length) c59)] ∧ World.ownsRow w_ 0 61 12 (.slice A24 L26.length c25) L26.length (L26.flatMap cellsC) ∧ logIn w_ R27 L26 ∧ World.ownsRow w_ 0 5 1 (.slice A44 ((if goodL (vals L26) then bytesL (vals L26) else []).length) c45) ((if goodL (vals L26) then bytesL (vals L26) else []).length) ((if goodL (vals L26) then bytesL (vals L26) else []).flatMap (Go.Tw.encI .u8)) ∧ World.ownsRow w_ 0 5 1 (.slice A58 ((if goodL (vals L) then bytesL (vals L) else []).length) c59) ((if goodL (vals L) then bytesL (vals L) else []).length) ((if goodL (vals L) then bytesL (vals L) else []).flatMap (Go.Tw.encI .u8)) ∧ (i ≤ L26.length)) ⟨_, _, ⟨0, rfl, rfl, hC94, ho95, hl96, ho97, ho98, Nat.zero_le _⟩, sub_of ⟨rfl, rfl, rfl, rfl, rfl, rfl, rfl, rfl, rfl, trivial⟩⟩ (fun m106 E_ w107 K103 hK104 hI105 => ?_)
    obtain ⟨i, rfl, rfl, hC108, lg37r_m106, lg37_m106, row51_m106, row66_m106, hi⟩ := hI105
    have hcn_ := (totE_vals hvv32)
    have hcm_ := totE_len L26
    refine WC.seq (fun K109 hK110 => ?_)
    refine WC.region ?_
    refine WL.runs 1 [(54, .bool (decide ((i : Int) < (L26.length : Int))))] (fun _ => by kernel_rfl) ?_
    refine WL.done rfl ?_
    refine QX.then_normal (hK110 _ _ ?_)
    refine WC.seq (fun K111 hK112 => ?_)
    refine WC.test_at 54 (decide ((i : Int) < (L26.length : Int))) rfl (fun t113b => ?_) (fun t113b => ?_)
    · -- (i : Int) < (L26.length : Int): true
      have t113 : (i : Int) < (L26.length : Int) := by have q_ := of_decide_eq_true t113b; omega
      refine WC.cond_true rfl ?_
      refine WC.skip ?_
      refine QX.then_normal (hK112 _ _ ?_)
      refine WC.seq (fun K114 hK115 => ?_)
      refine WC.block ?_
      refine WC.seq (fun K116 hK117 => ?_)
      refine WC.region ?_
      have hn122 := own_count cellsC_len (by decide) lg37r_m106
      obtain ⟨e118, he119⟩ := get_some (xs := L26) (i := i) (by omega)
      obtain ⟨b120, hA121⟩ := own_addr (by decide) cellsC_len lg37r_m106 he119
      refine WL.index A24 L26.length c25 55 .i64 (i : Int) b120 0 i 12 (by kernel_rfl) hA121 (by omega) (by omega) (i * 12) (by first | (simp; done) | omega) ?_
      refine WL.load 61 (.pointer (some ⟨b120, i * 12, none⟩)) (.agg #[.int .i64 e118.v.node, .int .i64 e118.v.boot, .int .i64 e118.v.seq, .int .i64 e118.v.time, .int .i64 e118.v.kind, .int .u32 e118.v.svip, .int .i64 e118.v.sproto, .int .i64 e118.v.sport, .slice e118.a e118.v.ends.length e118.c, .int .u32 e118.v.dip, .int .u32 e118.v.vip, .bool e118.v.up]) 56 (by kernel_rfl) (run_rdN (l := [.int .i64 e118.v.node, .int .i64 e118.v.boot, .int .i64 e118.v.seq, .int .i64 e118.v.time, .int .i64 e118.v.kind, .int .u32 e118.v.svip, .int .i64 e118.v.sproto, .int .i64 e118.v.sport, .slice e118.a e118.v.ends.length e118.c, .int .u32 e118.v.dip, .int .u32 e118.v.vip, .bool e118.v.up]) rfl rfl (fun j u hu => by have hq_ := Rd.cell (own_rd lg37r_m106 cellsC_len (by decide)) hA121 he119 j u hu; simpa [Nat.add_assoc] using hq_)) ?_
      refine WL.newM hC108 (fun b => .pointer (some ⟨b, 0, none⟩)) (.cells #[.int .i64 0, .int .i64 0, .int .i64 0, .int .i64 0, .int .i64 0, .int .u32 0, .int .i64 0, .int .i64 0, .slice none 0 0, .int .u32 0, .int .u32 0, .bool false] 61) 9 (fun _ => by kernel_rfl) (fun g123 w124 hb127 hF125 hC126 => ?_)
      have ho128 := own_fr lg37r_m106 hF125 (by simp)
      have hl129 := logIn.fr lg37_m106 hF125 (by simp)
      have ho130 := own_fr row51_m106 hF125 (by simp)
      have ho131 := own_fr row66_m106 hF125 (by simp)
      refine WL.storeM (c' := #[.int .i64 e118.v.node, .int .i64 e118.v.boot, .int .i64 e118.v.seq, .int .i64 e118.v.time, .int .i64 e118.v.kind, .int .u32 e118.v.svip, .int .i64 e118.v.sproto, .int .i64 e118.v.sport, .slice e118.a e118.v.ends.length e118.c, .int .u32 e118.v.dip, .int .u32 e118.v.vip, .bool e118.v.up]) hC126 0 61 g123 0 (.agg #[.int .i64 e118.v.node, .int .i64 e118.v.boot, .int .i64 e118.v.seq, .int .i64 e118.v.time, .int .i64 e118.v.kind, .int .u32 e118.v.svip, .int .i64 e118.v.sproto, .int .i64 e118.v.sport, .slice e118.a e118.v.ends.length e118.c, .int .u32 e118.v.dip, .int .u32 e118.v.vip, .bool e118.v.up]) (by kernel_rfl) rfl (by kernel_rfl) (fun w132 hF134 hC135 => ?_)
      have ho136 := own_fr ho128 hF134 (hC126.apartM 0 0 rfl rfl)
      have hl137 := logIn.fr hl129 hF134 (hC126.apartM 1 0 rfl rfl)
      have ho138 := own_fr ho130 hF134 (hC126.apartM 2 0 rfl rfl)
      have ho139 := own_fr ho131 hF134 (hC126.apartM 3 0 rfl rfl)
      refine WL.done rfl ?_
      refine QX.then_normal (hK117 _ _ ?_)
      refine WC.seq (fun K140 hK141 => ?_)
      refine WC.drawC hC135 [] (by kernel_rfl) (fun w142 hF143 hC144 hS145 => ?_)
      have ho146 := own_fr ho136 hF143 (by simp)
      have hl147 := logIn.fr hl137 hF143 (by simp)
      have ho148 := own_fr ho138 hF143 (by simp)
      have ho149 := own_fr ho139 hF143 (by simp)
      refine WD.load (NoPanic.then (NoPanic.block (NoPanic.then (NoPanic.then (NoPanic.block (NoPanic.then hN)))))) 0 61 (.pointer (some ⟨g123, 0, none⟩)) (.agg #[.int .i64 e118.v.node, .int .i64 e118.v.boot, .int .i64 e118.v.seq, .int .i64 e118.v.time, .int .i64 e118.v.kind, .int .u32 e118.v.svip, .int .i64 e118.v.sproto, .int .i64 e118.v.sport, .slice e118.a e118.v.ends.length e118.c, .int .u32 e118.v.dip, .int .u32 e118.v.vip, .bool e118.v.up]) 57 (by kernel_rfl) (by kernel_rfl) (fun _ hS_ => run_ld (Fr.has hS_ (hC144.get 0 rfl) (by simp)) rfl) hS145 ?_
      refine WD.load (NoPanic.then (NoPanic.block (NoPanic.then (NoPanic.then (NoPanic.block (NoPanic.then hN)))))) 3 61 (.pointer (some ⟨g123, 0, none⟩)) (.agg #[.int .i64 e118.v.node, .int .i64 e118.v.boot, .int .i64 e118.v.seq, .int .i64 e118.v.time, .int .i64 e118.v.kind, .int .u32 e118.v.svip, .int .i64 e118.v.sproto, .int .i64 e118.v.sport, .slice e118.a e118.v.ends.length e118.c, .int .u32 e118.v.dip, .int .u32 e118.v.vip, .bool e118.v.up]) 60 (by kernel_rfl) (by kernel_rfl) (fun _ hS_ => run_ld (Fr.has hS_ (hC144.get 0 rfl) (by simp)) rfl) hS145 ?_
      refine WD.call 1 (by kernel_rfl) rfl rfl rfl rfl rfl (by kernel_rfl) (Check_ct e118 w142 (hl147.at_ _ (List.mem_of_getElem? he119))) ?_
      rintro _ w151 ⟨rfl, hF150⟩
      have hS153 := hS145.trans hF150 (by simp)
      refine ⟨_, rfl, hS153, ?_⟩
      have hC152 := hC144.call hF150
      have ho154 := own_fr ho146 hF150 (by simp)
      have hl155 := logIn.fr hl147 hF150 (by simp)
      have ho156 := own_fr ho148 hF150 (by simp)
      have ho157 := own_fr ho149 hF150 (by simp)
      have hr158 : ∀ w_, Sem.run Try.prog (do eqGuard .eql 27 (Operand.tmp 58) (Operand.const (.nilIface)) (errV 35 (if goodC e118.v then 0 else 9)) (.nilIface); binOp .eql 27 (errV 35 (if goodC e118.v then 0 else 9)) (.nilIface)) w_ = .ok (.bool (goodC e118.v)) w_ := fun w_ => (err_eql _ (if goodC e118.v then 0 else 9) (goodC e118.v) (by cases goodC e118.v <;> rfl) _)
      refine WD.semP (NoPanic.then (NoPanic.block (NoPanic.then (NoPanic.then (NoPanic.block (NoPanic.then hN)))))) 2 (do eqGuard .eql 27 (Operand.tmp 58) (Operand.const (.nilIface)) (errV 35 (if goodC e118.v then 0 else 9)) (.nilIface); binOp .eql 27 (errV 35 (if goodC e118.v then 0 else 9)) (.nilIface)) 59 (.bool (goodC e118.v)) (by kernel_rfl) (by kernel_rfl) (fun _ _ => hr158 _) hS153 ?_
      refine WD.call 4 (by kernel_rfl) rfl rfl rfl rfl rfl (by kernel_rfl) (RGood_ct e118 w151 (hl155.at_ _ (List.mem_of_getElem? he119))) ?_
      rintro _ w160 ⟨rfl, hF159⟩
      have hS162 := hS153.trans hF159 (by simp)
      refine ⟨_, rfl, hS162, ?_⟩
      have hC161 := hC152.call hF159
      have ho163 := own_fr ho154 hF159 (by simp)
      have hl164 := logIn.fr hl155 hF159 (by simp)
      have ho165 := own_fr ho156 hF159 (by simp)
      have ho166 := own_fr ho157 hF159 (by simp)
      refine WD.pure (NoPanic.then (NoPanic.block (NoPanic.then (NoPanic.then (NoPanic.block (NoPanic.then hN)))))) 5 62 (.bool ((goodC e118.v) != (goodC e118.v))) (by kernel_rfl) (fun _ => by kernel_rfl) hS162 ?_
      refine WD.done (by kernel_rfl) ?_
      refine QX.then_normal (hK141 _ _ ?_)
      refine WC.know 62 (.bool ((goodC e118.v) != (goodC e118.v))) (.bool false) rfl (congrArg Value.bool (by cases goodC e118.v <;> rfl)) ?_
      refine WC.cond_false rfl ?_
      refine WC.skip ?_
      refine QX.block_normal ?_
      refine QX.then_normal (hK115 _ _ ?_)
      refine WC.region ?_
      refine WL.runs 1 [(63, .int .i64 (IntKind.i64.wrap ((i : Int) + 1)))] (fun _ => by kernel_rfl) ?_
      refine WL.recast (show (.int .i64 (IntKind.i64.wrap ((i : Int) + 1)) : Value) = .int .i64 ((i : Int) + 1) from by rw [wrap_in_i64 ((i : Int) + 1) (by omega) (by omega)]) ?_
      refine WL.runs 1 [(53, .int .i64 ((i : Int) + 1))] (fun _ => by kernel_rfl) ?_
      refine WL.done rfl ?_
      refine QX.then_normal ?_
      have hC167 := hC161.pick [] [0, 1, 2, 3] rfl rfl
      refine fun a_ ha_ => hK104 _ _ _ ?_ ⟨i + 1, rfl, rfl, hC167, ho163, hl164, ho165, ho166, by omega⟩ a_ (ha_.weaken (sub_of ⟨rfl, rfl, rfl, rfl, rfl, rfl, rfl, rfl, rfl, trivial⟩))
      omega
    · -- (i : Int) < (L26.length : Int): false
      have t113 : (L26.length : Int) ≤ (i : Int) := by have q_ := of_decide_eq_false t113b; omega
      refine WC.cond_false rfl ?_
      refine WC.exit ?_
      refine QX.then_exit ?_
      refine QX.then_exit ?_
      refine QX.block_hit ?_
      refine QX.then_normal (hK100 _ _ ?_)
      refine WC.seq (fun K168 hK169 => ?_)
      refine WC.seq (fun K170 hK171 => ?_)
      refine WC.region ?_
      refine WL.runs 2 [(65, .bool ((if goodL (vals L) then (0 : Int) else 9) != 0)), (64, .int .i64 (if goodL (vals L) then (0 : Int) else 9))] (fun _ => by kernel_rfl) ?_
      refine WL.done rfl ?_
      refine QX.then_normal (hK171 _ _ ?_)
      refine WC.test_at 65 ((if goodL (vals L) then (0 : Int) else 9) != 0) rfl (fun t172b => ?_) (fun t172b => ?_)
      · -- (if goodL (vals L) then (0 : Int) else 9) ≠ 0: true
        have t172 : (if goodL (vals L) then (0 : Int) else 9) ≠ 0 := by simpa using t172b
        refine WC.cond_true rfl ?_
        refine WC.seq (fun K173 hK174 => ?_)
        refine WC.region ?_
        refine WL.runs 1 [(2, .bool true)] (fun _ => by kernel_rfl) ?_
        refine WL.done rfl ?_
        refine QX.then_normal (hK174 _ _ ?_)
        refine WC.ret ?_
        refine QX.then_ret ?_
        refine (hret _ _ _ rfl ?_).1
        clear hN hret hret' hK174 hK171 hK169 hK112 hK110 hK102 hK100 hK70 hK68 hK53 hK39 hK23 hK13 hK11 hK6 hK4 hK2
        exact ⟨rfl, hC108.fr⟩
      · -- (if goodL (vals L) then (0 : Int) else 9) ≠ 0: false
        have t172 : (if goodL (vals L) then (0 : Int) else 9) = 0 := by simpa using t172b
        refine WC.cond_false rfl ?_
        refine WC.skip ?_
        refine QX.then_normal (hK169 _ _ ?_)
        refine WC.seq (fun K175 hK176 => ?_)
        refine WC.region ?_
        refine WL.runs 1 [(67, .slice A44 ((if goodL (vals L26) then bytesL (vals L26) else []).length) c45)] (fun _ => by kernel_rfl) ?_
        have hg_ : goodL (vals L) = true := by
          cases hg0_ : goodL (vals L)
          · have z_ := t172b; rw [hg0_] at z_; simp at z_
          · rfl
        have hok_ := readOk_of (bs := (if goodL (vals L26) then bytesL (vals L26) else [])) (L := vals L) (vals_wf hL) hg_ (by rw [hvv32, hg_, if_pos rfl])
        refine WL.call rfl rfl rfl rfl rfl (by kernel_rfl) (Read_n A44 (if goodL (vals L26) then bytesL (vals L26) else []).length c45 (if goodL (vals L26) then bytesL (vals L26) else []) w107 (own_rd row51_m106 (Go.Tw.encI_len _) (by decide)) (own_count (Go.Tw.encI_len _) (by decide) row51_m106) (byteL_if _) (own_le row51_m106) (own_max row51_m106)) ?_
        rintro _ w182 ⟨A177, c178, L179, R180, rfl, hF181, ho184, hli185, hvv186, hRg187, hdd188⟩
        have hC183 := callNN hC108 hF181 (own_ge ho184) (own_lt ho184) (fun x_ h_ => (hRg187 x_ h_).1) (fun x_ h_ => (hRg187 x_ h_).2) hdd188
        have ho189 := own_base (b' := 0) ho184 (fun _ _ => Nat.zero_le _)
        refine ⟨_, rfl, ?_⟩
        have ho190 := own_fr lg37r_m106 hF181 (by simp)
        have hl191 := logIn.fr lg37_m106 hF181 (by simp)
        have ho192 := own_fr row51_m106 hF181 (by simp)
        have ho193 := own_fr row66_m106 hF181 (by simp)
        have heq195 : vals L179 = vals L := by rw [hvv186, hok_.1, if_pos rfl]; exact hok_.2
        refine WL.runs 5 [(5, errV 35 (if readOk (if goodL (vals L26) then bytesL (vals L26) else []) then 0 else 3)), (10, .slice A177 L179.length c178), (70, errV 35 (if readOk (if goodL (vals L26) then bytesL (vals L26) else []) then 0 else 3)), (69, .slice A177 L179.length c178), (66, .tuple #[.slice A177 L179.length c178, errV 35 (if readOk (if goodL (vals L26) then bytesL (vals L26) else []) then 0 else 3)])] (fun _ => by kernel_rfl) ?_
        refine WL.done rfl ?_
        refine QX.then_normal (hK176 _ _ ?_)
        refine WC.seq (fun K196 hK197 => ?_)
        refine WC.region ?_
        refine WL.runs 1 [(71, errV 35 (if readOk (if goodL (vals L26) then bytesL (vals L26) else []) then 0 else 3))] (fun _ => by kernel_rfl) ?_
        have hr198 : ∀ w_, Sem.run Try.prog (do eqGuard .eql 27 (Operand.tmp 71) (Operand.const (.nilIface)) (errV 35 (if readOk (if goodL (vals L26) then bytesL (vals L26) else []) then 0 else 3)) (.nilIface); binOp .eql 27 (errV 35 (if readOk (if goodL (vals L26) then bytesL (vals L26) else []) then 0 else 3)) (.nilIface)) w_ = .ok (.bool (readOk (if goodL (vals L26) then bytesL (vals L26) else []))) w_ := fun w_ => (err_eql _ (if readOk (if goodL (vals L26) then bytesL (vals L26) else []) then 0 else 3) (readOk (if goodL (vals L26) then bytesL (vals L26) else [])) (by cases readOk (if goodL (vals L26) then bytesL (vals L26) else []) <;> rfl) _)
        refine WL.sem (do eqGuard .eql 27 (Operand.tmp 71) (Operand.const (.nilIface)) (errV 35 (if readOk (if goodL (vals L26) then bytesL (vals L26) else []) then 0 else 3)) (.nilIface); binOp .eql 27 (errV 35 (if readOk (if goodL (vals L26) then bytesL (vals L26) else []) then 0 else 3)) (.nilIface)) 72 (.bool (readOk (if goodL (vals L26) then bytesL (vals L26) else []))) (by kernel_rfl) (hr198 _) ?_
        refine WL.runs 1 [(73, .bool (readOk (if goodL (vals L26) then bytesL (vals L26) else [])))] (fun _ => by kernel_rfl) ?_
        refine WL.know 73 (.bool (readOk (if goodL (vals L26) then bytesL (vals L26) else []))) (.bool true) rfl (congrArg Value.bool (by exact hok_.1)) ?_
        refine WL.runs 2 [(75, .slice A L.length c), (74, .slice A177 L179.length c178)] (fun _ => by kernel_rfl) ?_
        refine WL.call rfl rfl rfl rfl rfl (by kernel_rfl) (RSame_n A177 A L179.length c178 L.length c L179 L w182 (own_rd ho189 cellsC_len (by decide)) (Rd.fr hr hC183.fr) rfl rfl (fun m_ h_ => hli185.at_ m_ h_) (fun m_ h_ => cmdAt.fr0 (hL m_ h_) hC183.fr) (by have z1_ := totE_len L179; have z2_ := totE_vals heq195; omega)) ?_
        rintro _ w200 ⟨rfl, hF199⟩
        refine ⟨_, rfl, ?_⟩
        have hC201 := hC183.call hF199
        have ho202 := own_fr ho190 hF199 (by simp)
        have hl203 := logIn.fr hl191 hF199 (by simp)
        have ho204 := own_fr ho192 hF199 (by simp)
        have ho205 := own_fr ho193 hF199 (by simp)
        have ho206 := own_fr ho189 hF199 (by simp)
        have hl207 := logIn.fr hli185 hF199 (by simp)
        refine WL.runs 2 [(78, .bool (decide (vals L179 = vals L))), (77, .bool (decide (vals L179 = vals L)))] (fun _ => by kernel_rfl) ?_
        refine WL.know 78 (.bool (decide (vals L179 = vals L))) (.bool true) rfl (congrArg Value.bool (by simp [heq195])) ?_
        refine WL.runs 2 [(80, .slice A L.length c), (79, .slice A177 L179.length c178)] (fun _ => by kernel_rfl) ?_
        refine WL.call rfl rfl rfl rfl rfl (by kernel_rfl) (SameV_n A177 A L179.length c178 L.length c L179 L w200 (own_rd ho206 cellsC_len (by decide)) (Rd.fr hr hC201.fr) rfl rfl (fun m_ h_ => hl207.at_ m_ h_) (fun m_ h_ => cmdAt.fr0 (hL m_ h_) hC201.fr) (by have z1_ := totE_len L179; have z2_ := totE_vals heq195; omega)) ?_
        rintro _ w209 ⟨rfl, hF208⟩
        refine ⟨_, rfl, ?_⟩
        have hC210 := hC201.call hF208
        have ho211 := own_fr ho202 hF208 (by simp)
        have hl212 := logIn.fr hl203 hF208 (by simp)
        have ho213 := own_fr ho204 hF208 (by simp)
        have ho214 := own_fr ho205 hF208 (by simp)
        have ho215 := own_fr ho206 hF208 (by simp)
        have hl216 := logIn.fr hl207 hF208 (by simp)
        refine WL.runs 2 [(2, .bool (decide (vals L179 = vals L))), (82, .bool (decide (vals L179 = vals L)))] (fun _ => by kernel_rfl) ?_
        refine WL.done rfl ?_
        refine QX.then_normal (hK197 _ _ ?_)
        refine WC.ret ?_
        refine (hret _ _ _ rfl ?_).1
        clear hN hret hret' hK197 hK176 hK171 hK169 hK112 hK110 hK102 hK100 hK70 hK68 hK53 hK39 hK23 hK13 hK11 hK6 hK4 hK2
        exact ⟨congrArg (fun b_ => Ending.returned (Value.bool b_)) (decide_eq_true heq195), hC210.fr⟩

end Go.Proofs.Ytjacpjdikhlcoaa
