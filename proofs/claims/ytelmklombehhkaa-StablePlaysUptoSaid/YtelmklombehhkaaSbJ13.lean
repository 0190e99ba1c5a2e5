/- Contracts of functions of the program, each proved by a walk through its code; conditions stand in the statements. -/
import Derived.Test.YtelmklombehhkaaSbI13
namespace Go.Proofs.Ytelmklombehhkaa
set_option linter.unusedSimpArgs false
set_option linter.unusedVariables false
set_option linter.unusedSectionVars false
open Go Go.RowKit Go.Tw
set_option linter.unusedVariables false
set_option maxRecDepth 20000
theorem opAt.fr' {w w' : World} {o : StOp} (h : opAt w o) (hf : Fr w w' []) : opAt w' o := { h with row := h.row.fr hf (fun _ _ => by simp), more := Rd.fr h.more hf }
theorem long_ct (A : Option Addr) (c : Nat) (ops : List StOp)  (w : World) (hops : Rd w 5 cellO A ops) (hok : ∀ o ∈ ops, opAt w o) (hol : ops.length ≤ 9223372036854775807) : Calls Try.prog 21 #[.slice A ops.length c] w fun e w' => ∃ b, e = .returned (.bool b) ∧ Fr w w' [] := by
  refine enterD (n := 31) Try.func21 rfl rfl (Nat.le_of_ble_eq_true rfl) ?_
  intro Q0 hN hret hret'
  have hC := Cx.start w
  refine WC.seq (fun K1 hK2 => ?_)
  refine WC.region ?_
  refine WL.runs 1 [(2, .bool false)] (fun _ => by kernel_rfl) ?_
  refine WL.done rfl ?_
  refine QX.then_normal (hK2 _ _ ?_)
  refine WC.seq (fun K3 hK4 => ?_)
  refine WC.region ?_
  refine WL.runs 1 [(3, .int .i64 0)] (fun _ => by kernel_rfl) ?_
  refine WL.done rfl ?_
  refine QX.then_normal (hK4 _ _ ?_)
  refine WC.seq (fun K5 hK6 => ?_)
  refine WC.seq (fun K7 hK8 => ?_)
  refine WC.region ?_
  refine WL.runs 3 [(8, .int .i64 0), (7, .int .i64 (ops.length : Int)), (6, .slice A ops.length c)] (fun _ => by kernel_rfl) ?_
  refine WL.done rfl ?_
  refine QX.then_normal (hK8 _ _ ?_)
  refine WC.block ?_
  refine WC.loop (fun m_ E_ w_ => ∃ (i : Nat) (n : Int), m_ = ops.length - i ∧ E_ = [(0, .slice A ops.length c), (3, .int .i64 n), (6, .slice A ops.length c), (7, .int .i64 (ops.length : Int)), (8, .int .i64 (i : Int))] ∧ Cx w [] w_ [] [] ∧ (i ≤ ops.length)) ⟨_, _, ⟨0, 0, rfl, rfl, hC, Nat.zero_le _⟩, sub_of ⟨rfl, rfl, rfl, rfl, rfl, trivial⟩⟩ (fun m12 E_ w13 K9 hK10 hI11 => ?_)
  obtain ⟨i, n, rfl, rfl, hC14, hi⟩ := hI11
  refine WC.seq (fun K15 hK16 => ?_)
  refine WC.region ?_
  refine WL.runs 1 [(9, .bool (decide ((i : Int) < (ops.length : Int))))] (fun _ => by kernel_rfl) ?_
  refine WL.done rfl ?_
  refine QX.then_normal (hK16 _ _ ?_)
  refine WC.seq (fun K17 hK18 => ?_)
  refine WC.test_at 9 (decide ((i : Int) < (ops.length : Int))) rfl (fun t19b => ?_) (fun t19b => ?_)
  · -- (i : Int) < (ops.length : Int): true
    have t19 : (i : Int) < (ops.length : Int) := by have q_ := of_decide_eq_true t19b; omega
    refine WC.cond_true rfl ?_
    refine WC.skip ?_
    refine QX.then_normal (hK18 _ _ ?_)
    refine WC.seq (fun K20 hK21 => ?_)
    refine WC.block ?_
    refine WC.seq (fun K22 hK23 => ?_)
    refine WC.region ?_
    obtain ⟨e24, he25⟩ := get_some (xs := ops) (i := i) (by omega)
    obtain ⟨b26, o28, hA27, hc29⟩ := hops.at_ _ _ he25
    have hop_e24 := hok _ (List.mem_of_getElem? he25)
    refine WL.index A ops.length c 10 .i64 (i : Int) b26 o28 i 5 (by kernel_rfl) hA27 (by omega) (by omega) (o28 + i * 5) (by first | (simp; done) | omega) ?_
    refine WL.load 54 (.pointer (some ⟨b26, o28 + i * 5, none⟩)) (.agg #[.int .i64 e24.kind, .string e24.key, .slice e24.more.a e24.more.n e24.more.c, .slice e24.row.a e24.row.n e24.row.c, .int .i64 e24.cut]) 11 (by kernel_rfl) (run_rdN (l := [.int .i64 e24.kind, .string e24.key, .slice e24.more.a e24.more.n e24.more.c, .slice e24.row.a e24.row.n e24.row.c, .int .i64 e24.cut]) rfl rfl (fun j u hu => by have hq_ := hC14.fr.cell (hc29 j u hu) (by simp); simpa [Nat.add_assoc] using hq_)) ?_
    refine WL.newM hC14 (fun b => .pointer (some ⟨b, 0, none⟩)) (.cells #[.int .i64 0, .string ⟨#[]⟩, .slice none 0 0, .slice none 0 0, .int .i64 0] 54) 5 (fun _ => by kernel_rfl) (fun g30 w31 hb34 hF32 hC33 => ?_)
    refine WL.storeM (c' := #[.int .i64 e24.kind, .string e24.key, .slice e24.more.a e24.more.n e24.more.c, .slice e24.row.a e24.row.n e24.row.c, .int .i64 e24.cut]) hC33 0 54 g30 0 (.agg #[.int .i64 e24.kind, .string e24.key, .slice e24.more.a e24.more.n e24.more.c, .slice e24.row.a e24.row.n e24.row.c, .int .i64 e24.cut]) (by kernel_rfl) rfl (by kernel_rfl) (fun w35 hF37 hC38 => ?_)
    refine WL.done rfl ?_
    refine QX.then_normal (hK23 _ _ ?_)
    refine WC.seq (fun K39 hK40 => ?_)
    refine WC.region ?_
    refine WL.runs 2 [(13, .pointer (some ⟨g30, 3, none⟩)), (12, .int .i64 n)] (fun _ => by kernel_rfl) ?_
    refine WL.load 22 (.pointer (some ⟨g30, 3, none⟩)) (.slice e24.row.a e24.row.n e24.row.c) 14 (by kernel_rfl) (run_ld (hC38.get 0 rfl) rfl) ?_
    refine WL.runs 4 [(18, .pointer (some ⟨g30, 1, none⟩)), (17, .int .i64 (IntKind.i64.wrap (1 + (IntKind.i64.wrap (Int.tdiv (e24.row.n : Int) 64))))), (16, .int .i64 (IntKind.i64.wrap (Int.tdiv (e24.row.n : Int) 64))), (15, .int .i64 (e24.row.n : Int))] (fun _ => by kernel_rfl) ?_
    refine WL.load 9 (.pointer (some ⟨g30, 1, none⟩)) (.string e24.key) 19 (by kernel_rfl) (run_ld (hC38.get 0 rfl) rfl) ?_
    refine WL.runs 4 [(23, .pointer (some ⟨g30, 2, none⟩)), (22, .int .i64 (IntKind.i64.wrap ((IntKind.i64.wrap (1 + (IntKind.i64.wrap (Int.tdiv (e24.row.n : Int) 64)))) + (IntKind.i64.wrap (Int.tdiv (e24.key.size : Int) 16))))), (21, .int .i64 (IntKind.i64.wrap (Int.tdiv (e24.key.size : Int) 16))), (20, .int .i64 (e24.key.size : Int))] (fun _ => by kernel_rfl) ?_
    refine WL.load 40 (.pointer (some ⟨g30, 2, none⟩)) (.slice e24.more.a e24.more.n e24.more.c) 24 (by kernel_rfl) (run_ld (hC38.get 0 rfl) rfl) ?_
    refine WL.runs 4 [(3, .int .i64 (IntKind.i64.wrap (n + (IntKind.i64.wrap ((IntKind.i64.wrap ((IntKind.i64.wrap (1 + (IntKind.i64.wrap (Int.tdiv (e24.row.n : Int) 64)))) + (IntKind.i64.wrap (Int.tdiv (e24.key.size : Int) 16)))) + (e24.more.n : Int)))))), (27, .int .i64 (IntKind.i64.wrap (n + (IntKind.i64.wrap ((IntKind.i64.wrap ((IntKind.i64.wrap (1 + (IntKind.i64.wrap (Int.tdiv (e24.row.n : Int) 64)))) + (IntKind.i64.wrap (Int.tdiv (e24.key.size : Int) 16)))) + (e24.more.n : Int)))))), (26, .int .i64 (IntKind.i64.wrap ((IntKind.i64.wrap ((IntKind.i64.wrap (1 + (IntKind.i64.wrap (Int.tdiv (e24.row.n : Int) 64)))) + (IntKind.i64.wrap (Int.tdiv (e24.key.size : Int) 16)))) + (e24.more.n : Int)))), (25, .int .i64 (e24.more.n : Int))] (fun _ => by kernel_rfl) ?_
    refine WL.done rfl ?_
    refine QX.then_normal (hK40 _ _ ?_)
    refine WC.seq (fun K41 hK42 => ?_)
    refine WC.region ?_
    refine WL.runs 2 [(29, .bool (decide ((IntKind.i64.wrap (n + (IntKind.i64.wrap ((IntKind.i64.wrap ((IntKind.i64.wrap (1 + (IntKind.i64.wrap (Int.tdiv (e24.row.n : Int) 64)))) + (IntKind.i64.wrap (Int.tdiv (e24.key.size : Int) 16)))) + (e24.more.n : Int))))) > 600))), (28, .int .i64 (IntKind.i64.wrap (n + (IntKind.i64.wrap ((IntKind.i64.wrap ((IntKind.i64.wrap (1 + (IntKind.i64.wrap (Int.tdiv (e24.row.n : Int) 64)))) + (IntKind.i64.wrap (Int.tdiv (e24.key.size : Int) 16)))) + (e24.more.n : Int))))))] (fun _ => by kernel_rfl) ?_
    refine WL.done rfl ?_
    refine QX.then_normal (hK42 _ _ ?_)
    refine WC.test_at 29 (decide ((IntKind.i64.wrap (n + (IntKind.i64.wrap ((IntKind.i64.wrap ((IntKind.i64.wrap (1 + (IntKind.i64.wrap (Int.tdiv (e24.row.n : Int) 64)))) + (IntKind.i64.wrap (Int.tdiv (e24.key.size : Int) 16)))) + (e24.more.n : Int))))) > 600)) rfl (fun t43b => ?_) (fun t43b => ?_)
    · -- (IntKind.i64.wrap (n + (IntKind.i64.wrap ((IntKind.i64.wrap ((IntKind.i64.wrap (1 + (IntKind.i64.wrap (Int.tdiv (e24.row.n : Int) 64)))) + (IntKind.i64.wrap (Int.tdiv (e24.key.size : Int) 16)))) + (e24.more.n : Int))))) > 600: true
      have t43 : (600 : Int) < (IntKind.i64.wrap (n + (IntKind.i64.wrap ((IntKind.i64.wrap ((IntKind.i64.wrap (1 + (IntKind.i64.wrap (Int.tdiv (e24.row.n : Int) 64)))) + (IntKind.i64.wrap (Int.tdiv (e24.key.size : Int) 16)))) + (e24.more.n : Int))))) := by have q_ := of_decide_eq_true t43b; omega
      refine WC.cond_true rfl ?_
      refine WC.seq (fun K44 hK45 => ?_)
      refine WC.region ?_
      refine WL.runs 1 [(2, .bool true)] (fun _ => by kernel_rfl) ?_
      refine WL.done rfl ?_
      refine QX.then_normal (hK45 _ _ ?_)
      refine WC.ret ?_
      refine QX.block_ret ?_
      refine QX.then_ret ?_
      refine QX.then_ret ?_
      refine QX.block_ret ?_
      refine QX.then_ret ?_
      refine (hret _ _ _ rfl ?_).1
      clear hN hret hret' hK45 hK42 hK40 hK23 hK21 hK18 hK16 hK8 hK6 hK4 hK2
      exact ⟨_, rfl, hC38.fr⟩
    · -- (IntKind.i64.wrap (n + (IntKind.i64.wrap ((IntKind.i64.wrap ((IntKind.i64.wrap (1 + (IntKind.i64.wrap (Int.tdiv (e24.row.n : Int) 64)))) + (IntKind.i64.wrap (Int.tdiv (e24.key.size : Int) 16)))) + (e24.more.n : Int))))) > 600: false
      have t43 : (IntKind.i64.wrap (n + (IntKind.i64.wrap ((IntKind.i64.wrap ((IntKind.i64.wrap (1 + (IntKind.i64.wrap (Int.tdiv (e24.row.n : Int) 64)))) + (IntKind.i64.wrap (Int.tdiv (e24.key.size : Int) 16)))) + (e24.more.n : Int))))) ≤ 600 := by have q_ := of_decide_eq_false t43b; omega
      refine WC.cond_false rfl ?_
      refine WC.skip ?_
      refine QX.block_normal ?_
      refine QX.then_normal (hK21 _ _ ?_)
      refine WC.region ?_
      refine WL.runs 1 [(30, .int .i64 (IntKind.i64.wrap ((i : Int) + 1)))] (fun _ => by kernel_rfl) ?_
      refine WL.recast (show (.int .i64 (IntKind.i64.wrap ((i : Int) + 1)) : Value) = .int .i64 ((i : Int) + 1) from by rw [wrap_in_i64 ((i : Int) + 1) (by omega) (by omega)]) ?_
      refine WL.runs 1 [(8, .int .i64 ((i : Int) + 1))] (fun _ => by kernel_rfl) ?_
      refine WL.done rfl ?_
      refine QX.then_normal ?_
      have hC46 := hC38.pick [] [] rfl rfl
      refine fun a_ ha_ => hK10 _ _ _ ?_ ⟨i + 1, IntKind.i64.wrap (n + (IntKind.i64.wrap ((IntKind.i64.wrap ((IntKind.i64.wrap (1 + (IntKind.i64.wrap (Int.tdiv (e24.row.n : Int) 64)))) + (IntKind.i64.wrap (Int.tdiv (e24.key.size : Int) 16)))) + (e24.more.n : Int)))), rfl, rfl, hC46, by omega⟩ a_ (ha_.weaken (sub_of ⟨rfl, rfl, rfl, rfl, rfl, trivial⟩))
      omega
  · -- (i : Int) < (ops.length : Int): false
    have t19 : (ops.length : Int) ≤ (i : Int) := by have q_ := of_decide_eq_false t19b; omega
    refine WC.cond_false rfl ?_
    refine WC.exit ?_
    refine QX.then_exit ?_
    refine QX.then_exit ?_
    refine QX.block_hit ?_
    refine QX.then_normal (hK6 _ _ ?_)
    refine WC.seq (fun K47 hK48 => ?_)
    refine WC.region ?_
    refine WL.runs 1 [(2, .bool false)] (fun _ => by kernel_rfl) ?_
    refine WL.done rfl ?_
    refine QX.then_normal (hK48 _ _ ?_)
    refine WC.ret ?_
    refine (hret _ _ _ rfl ?_).1
    clear hN hret hret' hK48 hK18 hK16 hK8 hK6 hK4 hK2
    exact ⟨_, rfl, hC14.fr⟩

theorem Over_ct (A : Option Addr) (n c : Nat) (xs : List Int) (w : World) (hown : w.ownsRow 0 5 1 (.slice A n c) n (xs.flatMap (Go.Tw.encI .u8))) (hnl : n ≤ 9223372036854775807) : Calls Try.prog 14 #[.slice A n c] w fun e w' => ∃ ys : List Int, e = .returned (.tuple #[]) ∧ Fr w w' (blk (.slice A n c)) ∧ w'.ownsRow 0 5 1 (.slice A n c) n (ys.flatMap (Go.Tw.encI .u8)) ∧ ys.length = xs.length := by
  refine enterD (n := 15) Try.func14 rfl rfl (Nat.le_of_ble_eq_true rfl) ?_
  intro Q0 hN hret hret'
  have hnx0_ := own_count (Go.Tw.encI_len _) (by decide) hown
  have hC := Cx.start1 w (own_lt hown)
  refine WC.seq (fun K1 hK2 => ?_)
  refine WC.region ?_
  refine WL.runs 3 [(5, .int .i64 0), (4, .int .i64 (n : Int)), (3, .slice A n c)] (fun _ => by kernel_rfl) ?_
  refine WL.done rfl ?_
  refine QX.then_normal (hK2 _ _ ?_)
  refine WC.block ?_
  refine WC.loop (fun m_ E_ w_ => ∃ (i : Nat) (ys : List Int), m_ = xs.length - i ∧ E_ = [(0, .slice A n c), (3, .slice A n c), (4, .int .i64 (n : Int)), (5, .int .i64 (i : Int))] ∧ Cx w (blk (.slice A n c)) w_ [] [blk (.slice A n c)] ∧ World.ownsRow w_ 0 5 1 (.slice A n c) n (ys.flatMap (Go.Tw.encI .u8)) ∧ (i ≤ n ∧ ys.length = xs.length)) ⟨_, _, ⟨0, xs, rfl, rfl, hC, hown, Nat.zero_le _, rfl⟩, sub_of ⟨rfl, rfl, rfl, rfl, trivial⟩⟩ (fun m6 E_ w7 K3 hK4 hI5 => ?_)
  obtain ⟨i, ys, rfl, rfl, hC8, hrow, hi, hyl⟩ := hI5
  have hnx_ := own_count (Go.Tw.encI_len _) (by decide) hrow
  refine WC.seq (fun K9 hK10 => ?_)
  refine WC.region ?_
  refine WL.runs 1 [(6, .bool (decide ((i : Int) < (n : Int))))] (fun _ => by kernel_rfl) ?_
  refine WL.done rfl ?_
  refine QX.then_normal (hK10 _ _ ?_)
  refine WC.seq (fun K11 hK12 => ?_)
  refine WC.test_at 6 (decide ((i : Int) < (n : Int))) rfl (fun t13b => ?_) (fun t13b => ?_)
  · -- (i : Int) < (n : Int): true
    have t13 : (i : Int) < (n : Int) := by have q_ := of_decide_eq_true t13b; omega
    refine WC.cond_true rfl ?_
    refine WC.skip ?_
    refine QX.then_normal (hK12 _ _ ?_)
    refine WC.seq (fun K14 hK15 => ?_)
    refine WC.block ?_
    refine WC.seq (fun K16 hK17 => ?_)
    refine WC.region ?_
    refine WL.runs 2 [(2, .int .i64 (i : Int)), (7, .int .i64 (i : Int))] (fun _ => by kernel_rfl) ?_
    refine WL.done rfl ?_
    refine QX.then_normal (hK17 _ _ ?_)
    refine WC.region ?_
    refine WL.runs 2 [(9, .int .i64 (i : Int)), (8, .slice A n c)] (fun _ => by kernel_rfl) ?_
    have hn22 := own_count (Go.Tw.encI_len _) (by decide) hrow
    obtain ⟨e18, he19⟩ := get_some (xs := ys) (i := i) (by omega)
    obtain ⟨b20, hA21⟩ := own_addr (by decide) (Go.Tw.encI_len _) hrow he19
    refine WL.index A n c 10 .i64 (i : Int) b20 0 i 1 (by kernel_rfl) hA21 (by omega) (by omega) i (by first | (simp; done) | omega) ?_
    refine WL.load 5 (.pointer (some ⟨b20, i, none⟩)) (.int .u8 e18) 11 (by kernel_rfl) (run_load1 rfl (by simpa [Nat.add_assoc] using Rd.cell (own_rd hrow (Go.Tw.encI_len _) (by decide)) hA21 he19 0 _ rfl)) ?_
    refine WL.runs 1 [(12, .int .u8 (Go.bits .xor .u8 e18 255))] (fun _ => by kernel_rfl) ?_
    have hn27 := own_count (Go.Tw.encI_len _) (by decide) hrow
    obtain ⟨e23, he24⟩ := get_some (xs := ys) (i := i) (by omega)
    obtain ⟨b25, hA26⟩ := own_addr (by decide) (Go.Tw.encI_len _) hrow he24
    refine WL.index A n c 13 .i64 (i : Int) b25 0 i 1 (by kernel_rfl) hA26 (by omega) (by omega) i (by first | (simp; done) | omega) ?_
    obtain ⟨w28, hr29, hF30, ho32, hC31⟩ := stoE_run Try.prog (Go.Tw.encI_len _) hC8 0 hA26 rfl hrow i 0 (x := e23) he24 (Go.bits .xor .u8 e18 255) [.int .u8 (Go.bits .xor .u8 e18 255)] rfl 5 (.int .u8 (Go.bits .xor .u8 e18 255)) (i) rfl rfl rfl (by first | rfl | simp [Nat.add_assoc])
    refine WL.semU (Instr.storeAt 5 (.pointer (some ⟨b25, i, none⟩)) (.int .u8 (Go.bits .xor .u8 e18 255))) (by kernel_rfl) hr29 ?_
    refine WL.done rfl ?_
    refine QX.block_normal ?_
    refine QX.then_normal (hK15 _ _ ?_)
    refine WC.region ?_
    refine WL.runs 1 [(14, .int .i64 (IntKind.i64.wrap ((i : Int) + 1)))] (fun _ => by kernel_rfl) ?_
    refine WL.recast (show (.int .i64 (IntKind.i64.wrap ((i : Int) + 1)) : Value) = .int .i64 ((i : Int) + 1) from by rw [wrap_in_i64 ((i : Int) + 1) (by omega) (by omega)]) ?_
    refine WL.runs 1 [(5, .int .i64 ((i : Int) + 1))] (fun _ => by kernel_rfl) ?_
    refine WL.done rfl ?_
    refine QX.then_normal ?_
    have hC33 := hC31.pick [] [0] rfl rfl
    refine fun a_ ha_ => hK4 _ _ _ ?_ ⟨i + 1, ys.set i (Go.bits .xor .u8 e18 255), rfl, rfl, hC33, ho32, by omega, by simpa using hyl⟩ a_ (ha_.weaken (sub_of ⟨rfl, rfl, rfl, rfl, trivial⟩))
    omega
  · -- (i : Int) < (n : Int): false
    have t13 : (n : Int) ≤ (i : Int) := by have q_ := of_decide_eq_false t13b; omega
    refine WC.cond_false rfl ?_
    refine WC.exit ?_
    refine QX.then_exit ?_
    refine QX.then_exit ?_
    refine QX.block_hit ?_
    refine (hret _ _ _ rfl ?_).2
    clear hN hret hret' hK12 hK10 hK2
    exact ⟨_, rfl, hC8.fr, hrow, by simpa using hyl⟩

theorem used_step {ps : Mt} {i : Nat} {p : ByteArray × BRow} (h : ps[i]? = some p) : usedL (ct (ps.take (i + 1))) = usedL (ct (ps.take i)) + p.1.size + p.2.xs.length ∧ usedL (ct (ps.take (i + 1))) ≤ usedL (ct ps) := by
  obtain ⟨hk, rfl⟩ := List.getElem?_eq_some_iff.1 h
  refine ⟨by rw [List.take_succ_eq_append_getElem hk, used_snoc], ?_⟩
  have e : ct ps = ct (ps.take (i + 1)) ++ ct (ps.drop (i + 1)) := by unfold ct; rw [← List.map_append, List.take_append_drop]
  rw [e, used_app]; omega
theorem RUsed_ct (A : Option Addr) (c : Nat) (ps : Mt) (R : List Nat) (w : World) (hrd : Rd w 2 cellP A ps) (hps : rowsIn w R ps) (hlim : usedL (ct ps) ≤ 67108864) (hpl : ps.length ≤ 9223372036854775807) : Calls Try.prog 39 #[.slice A ps.length c] w fun e w' => e = .returned (.int .i64 (usedL (ct ps) : Int)) ∧ Fr w w' [] := by
  refine enterD (n := 27) Try.func39 rfl rfl (Nat.le_of_ble_eq_true rfl) ?_
  intro Q0 hN hret hret'
  have hC := Cx.start w
  refine WC.seq (fun K1 hK2 => ?_)
  refine WC.region ?_
  refine WL.runs 1 [(2, .int .i64 0)] (fun _ => by kernel_rfl) ?_
  refine WL.done rfl ?_
  refine QX.then_normal (hK2 _ _ ?_)
  refine WC.seq (fun K3 hK4 => ?_)
  refine WC.region ?_
  refine WL.runs 1 [(3, .int .i64 0)] (fun _ => by kernel_rfl) ?_
  refine WL.done rfl ?_
  refine QX.then_normal (hK4 _ _ ?_)
  refine WC.seq (fun K5 hK6 => ?_)
  refine WC.seq (fun K7 hK8 => ?_)
  refine WC.region ?_
  refine WL.runs 1 [(4, .int .i64 0)] (fun _ => by kernel_rfl) ?_
  refine WL.done rfl ?_
  refine QX.then_normal (hK8 _ _ ?_)
  refine WC.block ?_
  refine WC.loop (fun m_ E_ w_ => ∃ (i : Nat) (n : Int), m_ = ps.length - i ∧ E_ = [(0, .slice A ps.length c), (3, .int .i64 n), (4, .int .i64 (i : Int))] ∧ Cx w [] w_ [] [] ∧ (i ≤ ps.length ∧ n = (usedL (ct (ps.take i)) : Int))) ⟨_, _, ⟨0, 0, rfl, rfl, hC, Nat.zero_le _, rfl⟩, sub_of ⟨rfl, rfl, rfl, trivial⟩⟩ (fun m12 E_ w13 K9 hK10 hI11 => ?_)
  obtain ⟨i, n, rfl, rfl, hC14, hi, hn⟩ := hI11
  refine WC.seq (fun K15 hK16 => ?_)
  refine WC.seq (fun K17 hK18 => ?_)
  refine WC.region ?_
  refine WL.runs 4 [(8, .bool (decide ((i : Int) < (ps.length : Int)))), (7, .int .i64 (ps.length : Int)), (6, .slice A ps.length c), (5, .int .i64 (i : Int))] (fun _ => by kernel_rfl) ?_
  refine WL.done rfl ?_
  refine QX.then_normal (hK18 _ _ ?_)
  refine WC.test_at 8 (decide ((i : Int) < (ps.length : Int))) rfl (fun t19b => ?_) (fun t19b => ?_)
  · -- (i : Int) < (ps.length : Int): true
    have t19 : (i : Int) < (ps.length : Int) := by have q_ := of_decide_eq_true t19b; omega
    refine WC.cond_true rfl ?_
    refine WC.skip ?_
    refine QX.then_normal (hK16 _ _ ?_)
    refine WC.seq (fun K20 hK21 => ?_)
    refine WC.block ?_
    refine WC.drawC hC14 [] (by kernel_rfl) (fun w22 hF23 hC24 hS25 => ?_)
    refine WD.pure (NoPanic.block (NoPanic.then (NoPanic.then (NoPanic.block (NoPanic.then hN))))) 0 11 (.int .i64 n) (by kernel_rfl) (fun _ => by kernel_rfl) hS25 ?_
    refine WD.pure (NoPanic.block (NoPanic.then (NoPanic.then (NoPanic.block (NoPanic.then hN))))) 1 12 (.slice A ps.length c) (by kernel_rfl) (fun _ => by kernel_rfl) hS25 ?_
    refine WD.pure (NoPanic.block (NoPanic.then (NoPanic.then (NoPanic.block (NoPanic.then hN))))) 2 13 (.int .i64 (i : Int)) (by kernel_rfl) (fun _ => by kernel_rfl) hS25 ?_
    obtain ⟨e26, he27⟩ := get_some (xs := ps) (i := i) (by omega)
    obtain ⟨b28, o30, hA29, hc31⟩ := hrd.at_ _ _ he27
    have hpr_ := hps.1 _ (List.mem_of_getElem? he27)
    have hpl_ := hpr_.len
    obtain ⟨hu1_, hu2_⟩ := used_step he27
    refine WD.index (NoPanic.block (NoPanic.then (NoPanic.then (NoPanic.block (NoPanic.then hN))))) 3 A ps.length c 14 .i64 (i : Int) b28 o30 i 2 (by kernel_rfl) (by kernel_rfl) hA29 (by omega) (by omega) (o30 + i * 2) (by first | (simp; done) | omega) hS25 ?_
    refine WD.pure (NoPanic.block (NoPanic.then (NoPanic.then (NoPanic.block (NoPanic.then hN))))) 4 15 (.pointer (some ⟨b28, o30 + i * 2, none⟩)) (by kernel_rfl) (fun _ => by kernel_rfl) hS25 ?_
    refine WD.pure (NoPanic.block (NoPanic.then (NoPanic.then (NoPanic.block (NoPanic.then hN))))) 8 19 (.slice A ps.length c) (by kernel_rfl) (fun _ => by kernel_rfl) hS25 ?_
    refine WD.pure (NoPanic.block (NoPanic.then (NoPanic.then (NoPanic.block (NoPanic.then hN))))) 9 20 (.int .i64 (i : Int)) (by kernel_rfl) (fun _ => by kernel_rfl) hS25 ?_
    refine WD.index (NoPanic.block (NoPanic.then (NoPanic.then (NoPanic.block (NoPanic.then hN))))) 10 A ps.length c 21 .i64 (i : Int) b28 o30 i 2 (by kernel_rfl) (by kernel_rfl) hA29 (by omega) (by omega) (o30 + i * 2) (by first | (simp; done) | omega) hS25 ?_
    refine WD.pure (NoPanic.block (NoPanic.then (NoPanic.then (NoPanic.block (NoPanic.then hN))))) 11 22 (.pointer (some ⟨b28, o30 + i * 2 + 1, none⟩)) (by kernel_rfl) (fun _ => by kernel_rfl) hS25 ?_
    refine WD.load (NoPanic.block (NoPanic.then (NoPanic.then (NoPanic.block (NoPanic.then hN))))) 5 9 (.pointer (some ⟨b28, o30 + i * 2, none⟩)) (.string e26.1) 16 (by kernel_rfl) (by kernel_rfl) (fun _ hS_ => run_load1 rfl (by simpa [Nat.add_assoc] using Fr.cell hS_ (hC24.fr.cell (hc31 0 _ rfl) (by simp)) (by simp))) hS25 ?_
    refine WD.pure (NoPanic.block (NoPanic.then (NoPanic.then (NoPanic.block (NoPanic.then hN))))) 6 17 (.int .i64 (e26.1.size : Int)) (by kernel_rfl) (fun _ => by kernel_rfl) hS25 ?_
    refine WD.pure (NoPanic.block (NoPanic.then (NoPanic.then (NoPanic.block (NoPanic.then hN))))) 7 18 (.int .i64 (IntKind.i64.wrap (n + (e26.1.size : Int)))) (by kernel_rfl) (fun _ => by kernel_rfl) hS25 ?_
    refine WD.recast (show (.int .i64 (IntKind.i64.wrap (n + (e26.1.size : Int))) : Value) = .int .i64 (n + (e26.1.size : Int)) from by rw [wrap_in_i64 (n + (e26.1.size : Int)) (by omega) (by omega)]) ?_
    refine WD.load (NoPanic.block (NoPanic.then (NoPanic.then (NoPanic.block (NoPanic.then hN))))) 12 22 (.pointer (some ⟨b28, o30 + i * 2 + 1, none⟩)) (.slice e26.2.a e26.2.n e26.2.c) 23 (by kernel_rfl) (by kernel_rfl) (fun _ hS_ => run_load1 rfl (by simpa [Nat.add_assoc] using Fr.cell hS_ (hC24.fr.cell (hc31 1 _ rfl) (by simp)) (by simp))) hS25 ?_
    refine WD.pure (NoPanic.block (NoPanic.then (NoPanic.then (NoPanic.block (NoPanic.then hN))))) 13 24 (.int .i64 (e26.2.n : Int)) (by kernel_rfl) (fun _ => by kernel_rfl) hS25 ?_
    refine WD.pure (NoPanic.block (NoPanic.then (NoPanic.then (NoPanic.block (NoPanic.then hN))))) 14 25 (.int .i64 (IntKind.i64.wrap ((n + (e26.1.size : Int)) + (e26.2.n : Int)))) (by kernel_rfl) (fun _ => by kernel_rfl) hS25 ?_
    refine WD.recast (show (.int .i64 (IntKind.i64.wrap ((n + (e26.1.size : Int)) + (e26.2.n : Int))) : Value) = .int .i64 ((n + (e26.1.size : Int)) + (e26.2.n : Int)) from by rw [wrap_in_i64 ((n + (e26.1.size : Int)) + (e26.2.n : Int)) (by omega) (by omega)]) ?_
    refine WD.pure (NoPanic.block (NoPanic.then (NoPanic.then (NoPanic.block (NoPanic.then hN))))) 15 3 (.int .i64 ((n + (e26.1.size : Int)) + (e26.2.n : Int))) (by kernel_rfl) (fun _ => by kernel_rfl) hS25 ?_
    refine WD.done (by kernel_rfl) ?_
    refine QX.block_normal ?_
    refine QX.then_normal (hK21 _ _ ?_)
    refine WC.region ?_
    refine WL.runs 2 [(10, .int .i64 (IntKind.i64.wrap ((i : Int) + 1))), (9, .int .i64 (i : Int))] (fun _ => by kernel_rfl) ?_
    refine WL.recast (show (.int .i64 (IntKind.i64.wrap ((i : Int) + 1)) : Value) = .int .i64 ((i : Int) + 1) from by rw [wrap_in_i64 ((i : Int) + 1) (by omega) (by omega)]) ?_
    refine WL.runs 1 [(4, .int .i64 ((i : Int) + 1))] (fun _ => by kernel_rfl) ?_
    refine WL.done rfl ?_
    refine QX.then_normal ?_
    have hC36 := hC24.pick [] [] rfl rfl
    refine fun a_ ha_ => hK10 _ _ _ ?_ ⟨i + 1, (n + (e26.1.size : Int)) + (e26.2.n : Int), rfl, rfl, hC36, by omega, by omega⟩ a_ (ha_.weaken (sub_of ⟨rfl, rfl, rfl, trivial⟩))
    omega
  · -- (i : Int) < (ps.length : Int): false
    have t19 : (ps.length : Int) ≤ (i : Int) := by have q_ := of_decide_eq_false t19b; omega
    refine WC.cond_false rfl ?_
    refine WC.exit ?_
    refine QX.then_exit ?_
    refine QX.then_exit ?_
    refine QX.block_hit ?_
    refine QX.then_normal (hK6 _ _ ?_)
    refine WC.seq (fun K37 hK38 => ?_)
    refine WC.region ?_
    refine WL.runs 2 [(2, .int .i64 n), (26, .int .i64 n)] (fun _ => by kernel_rfl) ?_
    refine WL.done rfl ?_
    refine QX.then_normal (hK38 _ _ ?_)
    refine WC.ret ?_
    refine (hret _ _ _ rfl ?_).1
    clear hN hret hret' hK38 hK18 hK16 hK8 hK6 hK4 hK2
    have hi_ : i = ps.length := by omega
    subst hi_
    rw [List.take_length] at hn
    exact ⟨by show Ending.returned (.int .i64 n) = _; rw [hn], hC14.fr⟩

set_option maxHeartbeats 1000000 in
theorem Drop_ct (F : List Nat) (p : Nat) (N Y : Ct) (size : Int) (A : Option Addr) (c : Nat) (ks : List ByteArray) (w : World) (ht : stAt w F p N Y size) (hks : Rd w 1 Go.Tw.encS A ks) (hkl : ks.length ≤ 9223372036854775807) (hAF : ∀ b off, A = some ⟨b, off, none⟩ → b ∉ F) : Calls Try.prog 25 #[.pointer (some ⟨p, 0, none⟩), .slice A ks.length c] w fun e w' => ∃ F2, e = .returned (.int .i64 (dropN N ks : Int)) ∧ Fr w w' F ∧ stAt w' F2 p (ks.foldl delL N) Y size ∧ ∀ x ∈ F2, x ∈ F ∨ w.heap.size ≤ x := by
  refine enterD (n := 37) Try.func25 rfl rfl (Nat.le_of_ble_eq_true rfl) ?_
  intro Q0 hN hret hret'
  have ht0 := ht
  obtain ⟨b1, b2, m1, m2, hp_, hq1_, hq2_, rfl, rfl, rfl, hne_, hft_, hs0_, hs1_, hu1_, hu2_⟩ := ht
  obtain ⟨hne1_, hne2_, hne3_⟩ := hne_
  obtain ⟨es1, cl1, hb1_, hm1_⟩ := hq1_.map
  obtain ⟨es2, cl2, hb2_, hm2_⟩ := hq2_.map
  have hC := Cx.startMs w [(p, .cells #[.map (some b1), .map (some b2), .int .i64 size] 70), (b1, .map es1 cl1), (b2, .map es2 cl2)] (by simp [hne1_, hne2_, hne3_]) (by simp [hp_, hb1_, hb2_])
  refine WC.seq (fun K1 hK2 => ?_)
  refine WC.region ?_
  refine WL.runs 1 [(4, .int .i64 0)] (fun _ => by kernel_rfl) ?_
  refine WL.done rfl ?_
  refine QX.then_normal (hK2 _ _ ?_)
  refine WC.seq (fun K3 hK4 => ?_)
  refine WC.seq (fun K5 hK6 => ?_)
  refine WC.region ?_
  refine WL.runs 2 [(11, .bool false), (10, .pointer (some ⟨p, 0, none⟩))] (fun _ => by kernel_rfl) ?_
  refine WL.done rfl ?_
  refine QX.then_normal (hK6 _ _ ?_)
  refine WC.cond_false rfl ?_
  refine WC.skip ?_
  refine QX.then_normal (hK4 _ _ ?_)
  refine WC.seq (fun K7 hK8 => ?_)
  refine WC.region ?_
  refine WL.runs 1 [(5, .int .i64 0)] (fun _ => by kernel_rfl) ?_
  refine WL.done rfl ?_
  refine QX.then_normal (hK8 _ _ ?_)
  refine WC.seq (fun K9 hK10 => ?_)
  refine WC.seq (fun K11 hK12 => ?_)
  refine WC.region ?_
  refine WL.runs 3 [(14, .int .i64 0), (13, .int .i64 (ks.length : Int)), (12, .slice A ks.length c)] (fun _ => by kernel_rfl) ?_
  refine WL.done rfl ?_
  refine QX.then_normal (hK12 _ _ ?_)
  refine WC.block ?_
  refine WC.loop (fun m_ E_ w_ => ∃ (i : Nat) (n : Int) (es3 : Array MapEntry) (m3 : Mt), m_ = ks.length - i ∧ E_ = [(0, .pointer (some ⟨p, 0, none⟩)), (1, .slice A ks.length c), (4, .int .i64 0), (5, .int .i64 n), (12, .slice A ks.length c), (13, .int .i64 (ks.length : Int)), (14, .int .i64 (i : Int))] ∧ Cx w [p, b1, b2] w_ [(p, .cells #[.map (some b1), .map (some b2), .int .i64 size] 70), (b1, .map es3 cl1), (b2, .map es2 cl2)] [] ∧ (i ≤ ks.length ∧ MapOk ekS evB es3 cl1 m3 ∧ (∀ q ∈ m3, q ∈ m1) ∧ usedL (ct m3) ≤ usedL (ct m1) ∧ n + (dropN (ct m3) (ks.drop i) : Int) = (dropN (ct m1) ks : Int) ∧ (ks.drop i).foldl delL (ct m3) = ks.foldl delL (ct m1) ∧ 0 ≤ n ∧ n ≤ (i : Int))) ⟨_, _, ⟨0, 0, es1, m1, rfl, rfl, hC, Nat.zero_le _, hm1_, fun _ h_ => h_, Nat.le_refl _, by simp, rfl, Int.le_refl _, Int.le_refl _⟩, sub_of ⟨rfl, rfl, rfl, rfl, rfl, rfl, rfl, trivial⟩⟩ (fun m16 E_ w17 K13 hK14 hI15 => ?_)
  obtain ⟨i, n, es3, m3, rfl, rfl, hC18, hi, hm3, hsub, hus, hdn, hfo, hn0, hni⟩ := hI15
  skip
  refine WC.seq (fun K19 hK20 => ?_)
  refine WC.region ?_
  refine WL.runs 1 [(15, .bool (decide ((i : Int) < (ks.length : Int))))] (fun _ => by kernel_rfl) ?_
  refine WL.done rfl ?_
  refine QX.then_normal (hK20 _ _ ?_)
  refine WC.seq (fun K21 hK22 => ?_)
  refine WC.test_at 15 (decide ((i : Int) < (ks.length : Int))) rfl (fun t23b => ?_) (fun t23b => ?_)
  · -- (i : Int) < (ks.length : Int): true
    have t23 : (i : Int) < (ks.length : Int) := by have q_ := of_decide_eq_true t23b; omega
    refine WC.cond_true rfl ?_
    refine WC.skip ?_
    refine QX.then_normal (hK22 _ _ ?_)
    refine WC.seq (fun K24 hK25 => ?_)
    refine WC.block ?_
    refine WC.seq (fun K26 hK27 => ?_)
    refine WC.region ?_
    obtain ⟨e28, he29⟩ := get_some (xs := ks) (i := i) (by omega)
    obtain ⟨b30, o32, hA31, hc33⟩ := hks.at_ _ _ he29
    refine WL.index A ks.length c 16 .i64 (i : Int) b30 o32 i 1 (by kernel_rfl) hA31 (by omega) (by omega) (o32 + i) (by first | (simp; done) | omega) ?_
    refine WL.load 9 (.pointer (some ⟨b30, o32 + i, none⟩)) (.string e28) 17 (by kernel_rfl) (run_load1 rfl (by simpa [Nat.add_assoc] using hC18.fr.cell (hc33 0 _ rfl) (by have q_ := hAF _ _ hA31; simp only [List.mem_cons, List.mem_append, List.map_cons, List.map_nil, List.not_mem_nil, not_or, or_false] at q_ ⊢; exact ⟨q_.1, q_.2.1, q_.2.2.1⟩))) ?_
    refine WL.runs 1 [(7, .string e28)] (fun _ => by kernel_rfl) ?_
    refine WL.done rfl ?_
    refine QX.then_normal (hK27 _ _ ?_)
    refine WC.seq (fun K34 hK35 => ?_)
    refine WC.region ?_
    refine WL.runs 3 [(21, .pointer (some ⟨p, 0, none⟩)), (20, .pointer (some ⟨p, 0, none⟩)), (19, .pointer (some ⟨p, 0, none⟩))] (fun _ => by kernel_rfl) ?_
    refine WL.load 68 (.pointer (some ⟨p, 0, none⟩)) (.map (some b1)) 22 (by kernel_rfl) (run_ld (hC18.get 0 rfl) rfl) ?_
    refine WL.runs 1 [(23, .string e28)] (fun _ => by kernel_rfl) ?_
    obtain ⟨xv36, hxv37⟩ : ∃ x_, (lookL m3 e28).getD zeroB = x_ := ⟨_, rfl⟩
    obtain ⟨bv38, hbv39⟩ : ∃ b_, (lookL m3 e28).isSome = b_ := ⟨_, rfl⟩
    have hr40 := lookM_ok (P := Try.prog) (w := w17) (ek := ekS) (ev := evB) (d := zeroB) (rfl : Program.underlying Try.prog 68 = some (.map 9 22)) keyS (fun _ => by kernel_rfl) (hC18.get 1 rfl) hm3 e28 hxv37 hbv39
    refine WL.sem (Instr.lookup 68 (.map (some b1)) (.string e28) true) 24 (.tuple #[.slice xv36.a xv36.n xv36.c, .bool bv38]) (by kernel_rfl) hr40 ?_
    refine WL.runs 5 [(9, .bool bv38), (8, .slice xv36.a xv36.n xv36.c), (26, .bool bv38), (25, .slice xv36.a xv36.n xv36.c), (18, .tuple #[.slice xv36.a xv36.n xv36.c, .bool bv38])] (fun _ => by kernel_rfl) ?_
    refine WL.done rfl ?_
    refine QX.then_normal (hK35 _ _ ?_)
    refine WC.seq (fun K41 hK42 => ?_)
    refine WC.region ?_
    refine WL.runs 1 [(27, .bool bv38)] (fun _ => by kernel_rfl) ?_
    refine WL.done rfl ?_
    refine QX.then_normal (hK42 _ _ ?_)
    refine WC.test_at 27 (bv38) rfl (fun t43b => ?_) (fun t43b => ?_)
    · -- bv38 = true: true
      refine WC.cond_true rfl ?_
      refine WC.seq (fun K44 hK45 => ?_)
      refine WC.region ?_
      refine WL.runs 3 [(30, .pointer (some ⟨p, 0, none⟩)), (29, .pointer (some ⟨p, 0, none⟩)), (28, .pointer (some ⟨p, 0, none⟩))] (fun _ => by kernel_rfl) ?_
      refine WL.load 68 (.pointer (some ⟨p, 0, none⟩)) (.map (some b1)) 31 (by kernel_rfl) (run_ld (hC18.get 0 rfl) rfl) ?_
      refine WL.runs 1 [(32, .string e28)] (fun _ => by kernel_rfl) ?_
      obtain ⟨w46, es47, hr48, hF49, hC50, hm51⟩ := delM_run (P := Try.prog) (ek := ekS) (ev := evB) (ty := 0) hC18 1 rfl (rfl : Program.underlying Try.prog 68 = some (.map 9 22)) keyS hm3 e28 9
      refine WL.semN (Builtin.delete_ #[68, 9] 0 #[.map (some b1), .string e28]) _ (by kernel_rfl) hr48 ?_
      refine WL.done rfl ?_
      refine QX.then_normal (hK45 _ _ ?_)
      refine WC.region ?_
      refine WL.runs 2 [(34, .int .i64 (IntKind.i64.wrap (n + 1))), (33, .int .i64 n)] (fun _ => by kernel_rfl) ?_
      refine WL.recast (show (.int .i64 (IntKind.i64.wrap (n + 1)) : Value) = .int .i64 (n + 1) from by rw [wrap_in_i64 (n + 1) (by omega) (by omega)]) ?_
      refine WL.runs 1 [(5, .int .i64 (n + 1))] (fun _ => by kernel_rfl) ?_
      refine WL.done rfl ?_
      refine QX.block_normal ?_
      refine QX.then_normal (hK25 _ _ ?_)
      refine WC.region ?_
      refine WL.runs 1 [(35, .int .i64 (IntKind.i64.wrap ((i : Int) + 1)))] (fun _ => by kernel_rfl) ?_
      refine WL.recast (show (.int .i64 (IntKind.i64.wrap ((i : Int) + 1)) : Value) = .int .i64 ((i : Int) + 1) from by rw [wrap_in_i64 ((i : Int) + 1) (by omega) (by omega)]) ?_
      refine WL.runs 1 [(14, .int .i64 ((i : Int) + 1))] (fun _ => by kernel_rfl) ?_
      refine WL.done rfl ?_
      refine QX.then_normal ?_
      have hC52 := hC50.pick [0, 1, 2] [] rfl rfl
      have hst_ := drop_step he29
      rw [hst_] at hdn hfo
      simp only [dropN, List.foldl_cons] at hdn hfo
      rw [show (lookL (ct m3) e28).isSome = true from by rw [ct_look, (look_some hxv37 (by rw [hbv39]; simpa using t43b))]; rfl, if_pos rfl] at hdn
      rw [← ct_del] at hdn hfo
      refine fun a_ ha_ => hK14 _ _ _ ?_ ⟨i + 1, n + 1, es47, (delL m3 e28), rfl, rfl, hC52, by omega, hm51, fun q_ h_ => hsub q_ (del_mem h_), by rw [ct_del]; exact Nat.le_trans (used_del_le _ _) hus, by omega, hfo, by omega, by omega⟩ a_ (ha_.weaken (sub_of ⟨rfl, rfl, rfl, rfl, rfl, rfl, rfl, trivial⟩))
      omega
    · -- bv38 = true: false
      refine WC.cond_false rfl ?_
      refine WC.skip ?_
      refine QX.block_normal ?_
      refine QX.then_normal (hK25 _ _ ?_)
      refine WC.region ?_
      refine WL.runs 1 [(35, .int .i64 (IntKind.i64.wrap ((i : Int) + 1)))] (fun _ => by kernel_rfl) ?_
      refine WL.recast (show (.int .i64 (IntKind.i64.wrap ((i : Int) + 1)) : Value) = .int .i64 ((i : Int) + 1) from by rw [wrap_in_i64 ((i : Int) + 1) (by omega) (by omega)]) ?_
      refine WL.runs 1 [(14, .int .i64 ((i : Int) + 1))] (fun _ => by kernel_rfl) ?_
      refine WL.done rfl ?_
      refine QX.then_normal ?_
      have hC53 := hC18.pick [0, 1, 2] [] rfl rfl
      have hst_ := drop_step he29
      rw [hst_] at hdn hfo
      simp only [dropN, List.foldl_cons] at hdn hfo
      have hnl_ : lookL (ct m3) e28 = none := by rw [ct_look, (look_none hxv37 (by rw [hbv39]; simpa using t43b)).1]; rfl
      rw [del_none hnl_] at hdn hfo
      simp only [hnl_, Option.isSome_none, Bool.false_eq_true, if_false, Nat.zero_add] at hdn
      refine fun a_ ha_ => hK14 _ _ _ ?_ ⟨i + 1, n, es3, m3, rfl, rfl, hC53, by omega, hm3, hsub, hus, by omega, hfo, by omega, by omega⟩ a_ (ha_.weaken (sub_of ⟨rfl, rfl, rfl, rfl, rfl, rfl, rfl, trivial⟩))
      omega
  · -- (i : Int) < (ks.length : Int): false
    have t23 : (ks.length : Int) ≤ (i : Int) := by have q_ := of_decide_eq_false t23b; omega
    refine WC.cond_false rfl ?_
    refine WC.exit ?_
    refine QX.then_exit ?_
    refine QX.then_exit ?_
    refine QX.block_hit ?_
    refine QX.then_normal (hK10 _ _ ?_)
    refine WC.seq (fun K54 hK55 => ?_)
    refine WC.region ?_
    refine WL.runs 2 [(4, .int .i64 n), (36, .int .i64 n)] (fun _ => by kernel_rfl) ?_
    refine WL.done rfl ?_
    refine QX.then_normal (hK55 _ _ ?_)
    refine WC.ret ?_
    refine (hret _ _ _ rfl ?_).1
    clear hN hret hret' hK55 hK22 hK20 hK12 hK10 hK8 hK6 hK4 hK2
    have hi_ : i = ks.length := by omega
    subst hi_
    rw [List.drop_length] at hdn hfo
    simp only [dropN, List.foldl_nil] at hdn hfo
    obtain ⟨F2_, h1_, h2_, h3_⟩ := drop_fin hq1_ hq2_ ⟨hne1_, hne2_, hne3_⟩ hft_ hC18.fr (hC18.get 0 rfl) (hC18.get 1 rfl) hm3 (hC18.get 2 rfl) hm2_ hsub ⟨hs0_, hs1_⟩ hus hu1_ hu2_
    rw [hfo] at h2_
    exact ⟨F2_, by show Ending.returned (.int .i64 n) = _; rw [show n = (dropN (ct m1) ks : Int) from by omega], h1_, h2_, h3_⟩

end Go.Proofs.Ytelmklombehhkaa
