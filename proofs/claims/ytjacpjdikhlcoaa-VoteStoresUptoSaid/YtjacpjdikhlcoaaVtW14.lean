/- Contracts of functions of the program, each proved by a walk through its code; conditions stand in the statements. -/
import Derived.Test.YtjacpjdikhlcoaaVtV14
namespace Go.Proofs.Ytjacpjdikhlcoaa
set_option linter.unusedSimpArgs false
set_option linter.unusedVariables false
set_option linter.unusedSectionVars false
open Go Go.RowKit Go.Tw
set_option linter.unusedVariables false
set_option maxRecDepth 20000
theorem balOk_num {bs : List Int} (h : 16 ≤ bs.length) : balOk bs = goodBal (numAt bs 0) (numAt bs 1) := by
  unfold balOk
  rw [if_neg (by omega)]
  obtain ⟨h1, h2⟩ := resR_long (bs := bs) (by omega)
  obtain ⟨h3, h4⟩ := resR_long (bs := bs.drop 8) (by rw [List.length_drop]; omega)
  rw [h1, h2, h4]; rfl
theorem balOk_short {bs : List Int} (h : bs.length < 16) : balOk bs = false := by unfold balOk; rw [if_pos h]
theorem proOk_eq (bs : List Int) : proOk bs = (decide (bs.length = 16) && balOk bs) := by unfold proOk; rw [Bool.and_comm]
theorem votOk_eq (bs : List Int) : votOk bs = (decide (16 ≤ bs.length) && (balOk bs && readOk (bs.drop 16))) := by
  unfold votOk
  by_cases h : 16 ≤ bs.length
  · rw [decide_eq_true h]; rfl
  · rw [decide_eq_false h, balOk_short (by omega)]; rfl
theorem putS_1 {key : ByteArray} {xs : List Int} (h1 : 1 ≤ key.size) (h2 : key.size ≤ 64) (h : xs.length ≤ 8192) : putS [] 1048576 key xs = [(key, xs)] := by
  have e : putE [] 1048576 key xs.length = 0 := putE_yes h1 h2 (by rw [del0, used0]; omega)
  unfold putS; rw [if_pos e]; rfl
theorem open_P {pr : List Int} (h : pr.length ≤ 8192) : openOk (putS [] 1048576 kP pr) = proOk pr := by
  rw [putS_1 (by decide) (by decide) h]
  show (lookB [(kP, pr)] kP proOk && lookB [(kP, pr)] kV votOk) = _
  simp [lookB, lookL]
theorem open_V {vo : List Int} (h : vo.length ≤ 8192) : openOk (putS [] 1048576 kV vo) = votOk vo := by
  rw [putS_1 (by decide) (by decide) h]
  show (lookB [(kV, vo)] kP proOk && lookB [(kV, vo)] kV votOk) = _
  simp [lookB, lookL]
theorem open_PV {pr vo : List Int} (h : pr.length ≤ 8192) (h2 : vo.length ≤ 8192) : openOk (putS (putS [] 1048576 kP pr) 1048576 kV vo) = (proOk pr && votOk vo) := by
  rw [putS_1 (by decide) (by decide) h]
  have hd : delL [(kP, pr)] kV = [(kP, pr)] := by simp [delL]
  have e : putE [(kP, pr)] 1048576 kV vo.length = 0 := putE_yes (by decide) (by decide) (by rw [hd]; simp only [usedL, List.map_cons, List.map_nil, List.sum_cons, List.sum_nil, show kP.size = 7 from rfl, show kV.size = 4 from rfl]; omega)
  have e2 : putS [(kP, pr)] 1048576 kV vo = [(kP, pr), (kV, vo)] := by unfold putS; rw [if_pos e]; simp [putL]
  rw [e2]
  show (lookB [(kP, pr), (kV, vo)] kP proOk && lookB [(kP, pr), (kV, vo)] kV votOk) = _
  simp [lookB, lookL]
theorem RGoodB_ct (n d : Int) (w : World) : Calls Try.prog 67 #[.agg #[.int .i64 n, .int .i64 d]] w fun e w' => e = .returned (.bool (goodBal n d)) ∧ Fr w w' [] := by
 refine enterD (n := 16) Try.func67 rfl rfl (Nat.le_of_ble_eq_true rfl) ?_
 intro Q0 hN hret hret'
 have hC := Cx.start w
 refine WC.seq (fun K1 hK2 => ?_)
 refine WC.region ?_
 refine WL.newM hC (fun b => .pointer (some ⟨b, 0, none⟩)) (.cells #[.int .i64 n, .int .i64 d] 50) 1 (fun _ => by kernel_rfl) (fun g3 w4 hb7 hF5 hC6 => ?_)
 refine WL.runs 1 [(2, .bool false)] (fun _ => by kernel_rfl) ?_
 refine WL.done rfl ?_
 refine QX.then_normal (hK2 _ _ ?_)
 refine WC.seq (fun K8 hK9 => ?_)
 refine WC.region ?_
 refine WL.runs 1 [(3, .pointer (some ⟨g3, 0, none⟩))] (fun _ => by kernel_rfl) ?_
 refine WL.load 3 (.pointer (some ⟨g3, 0, none⟩)) (.int .i64 n) 4 (by kernel_rfl) (run_ld (hC6.get 0 rfl) rfl) ?_
 refine WL.runs 2 [(6, .bool (decide (n ≥ 1))), (5, .bool (decide (n ≥ 1)))] (fun _ => by kernel_rfl) ?_
 refine WL.test_at 6 (decide (n ≥ 1)) rfl (fun t10b => ?_) (fun t10b => ?_)
 ·
  have t10 : (1 : Int) ≤ n := by have q_ := of_decide_eq_true t10b; omega
  refine WL.runs 1 [(7, .pointer (some ⟨g3, 0, none⟩))] (fun _ => by kernel_rfl) ?_
  refine WL.load 3 (.pointer (some ⟨g3, 0, none⟩)) (.int .i64 n) 8 (by kernel_rfl) (run_ld (hC6.get 0 rfl) rfl) ?_
  refine WL.runs 3 [(11, .bool (decide (n ≤ 1099511627776))), (10, .bool (decide (n ≤ 1099511627776))), (9, .bool (decide (n ≤ 1099511627776)))] (fun _ => by kernel_rfl) ?_
  refine WL.test_at 11 (decide (n ≤ 1099511627776)) rfl (fun t11b => ?_) (fun t11b => ?_)
  ·
   have t11 : n ≤ 1099511627776 := by have q_ := of_decide_eq_true t11b; omega
   refine WL.runs 1 [(12, .pointer (some ⟨g3, 1, none⟩))] (fun _ => by kernel_rfl) ?_
   refine WL.load 3 (.pointer (some ⟨g3, 1, none⟩)) (.int .i64 d) 13 (by kernel_rfl) (run_ld (hC6.get 0 rfl) rfl) ?_
   refine WL.call rfl rfl rfl rfl rfl (by kernel_rfl) (RMan_ct d w4) ?_
   rintro _ w13 ⟨rfl, hF12⟩
   refine ⟨_, rfl, ?_⟩
   have hC14 := hC6.call hF12
   refine WL.runs 2 [(2, .bool (mgrB d)), (15, .bool (mgrB d))] (fun _ => by kernel_rfl) ?_
   refine WL.done rfl ?_
   refine QX.then_normal (hK9 _ _ ?_)
   refine WC.ret ?_
   refine (hret _ _ _ rfl ?_).1
   clear hN hret hret' hK9 hK2
   have hg_ : ((mgrB d) : Bool) = goodBal n d := by unfold goodBal; first | rfl | (rw [decide_eq_true (by omega)]; rfl) | (rw [decide_eq_false (by omega)]; rfl)
   exact ⟨congrArg (fun b_ => Ending.returned (Value.bool b_)) hg_, hC14.fr⟩
  ·
   have t11 : (1099511627776 : Int) < n := by have q_ := of_decide_eq_false t11b; omega
   refine WL.runs 5 [(2, .bool false), (15, .bool false), (14, undef), (13, undef), (12, undef)] (fun _ => by kernel_rfl) ?_
   refine WL.done rfl ?_
   refine QX.then_normal (hK9 _ _ ?_)
   refine WC.ret ?_
   refine (hret _ _ _ rfl ?_).1
   clear hN hret hret' hK9 hK2
   have hg_ : (false : Bool) = goodBal n d := by unfold goodBal; first | rfl | (rw [decide_eq_true (by omega)]; rfl) | (rw [decide_eq_false (by omega)]; rfl)
   exact ⟨congrArg (fun b_ => Ending.returned (Value.bool b_)) hg_, hC6.fr⟩
 ·
  have t10 : n < 1 := by have q_ := of_decide_eq_false t10b; omega
  refine WL.runs 10 [(2, .bool false), (15, .bool false), (14, undef), (13, undef), (12, undef), (11, .bool false), (10, .bool false), (9, undef), (8, undef), (7, undef)] (fun _ => by kernel_rfl) ?_
  refine WL.done rfl ?_
  refine QX.then_normal (hK9 _ _ ?_)
  refine WC.ret ?_
  refine (hret _ _ _ rfl ?_).1
  clear hN hret hret' hK9 hK2
  have hg_ : (false : Bool) = goodBal n d := by unfold goodBal; first | rfl | (rw [decide_eq_true (by omega)]; rfl) | (rw [decide_eq_false (by omega)]; rfl)
  exact ⟨congrArg (fun b_ => Ending.returned (Value.bool b_)) hg_, hC6.fr⟩

theorem good_ct (A : Option Addr) (c : Nat) (bs : List Int) (w : World) (hr : Rd w 1 (Go.Tw.encI .u8) A bs) (hb : byteL bs) (h16 : 16 ≤ bs.length) : Calls Try.prog 49 #[.slice A bs.length c] w fun e w' => e = .returned (.bool (balOk bs)) ∧ Fr w w' [] := by
 refine enterD (n := 33) Try.func49 rfl rfl (Nat.le_of_ble_eq_true rfl) ?_
 intro Q0 hN hret hret'
 have hC := Cx.start w
 refine WC.seq (fun K1 hK2 => ?_)
 refine WC.region ?_
 refine WL.runs 1 [(2, .bool false)] (fun _ => by kernel_rfl) ?_
 refine WL.done rfl ?_
 refine QX.then_normal (hK2 _ _ ?_)
 refine WC.seq (fun K3 hK4 => ?_)
 refine WC.region ?_
 refine WL.runs 2 [(4, .int .u64 0), (3, .int .u64 0)] (fun _ => by kernel_rfl) ?_
 refine WL.done rfl ?_
 refine QX.then_normal (hK4 _ _ ?_)
 refine WC.seq (fun K5 hK6 => ?_)
 refine WC.seq (fun K7 hK8 => ?_)
 refine WC.region ?_
 refine WL.runs 1 [(5, .int .i64 0)] (fun _ => by kernel_rfl) ?_
 refine WL.done rfl ?_
 refine QX.then_normal (hK8 _ _ ?_)
 refine WC.block ?_
 refine WC.loop (fun m_ E_ w_ => ∃ (i : Nat), m_ = 8 - i ∧ E_ = [(0, .slice A bs.length c), (3, .int .u64 (valF 0 ((bs.drop (8 * 0)).take i))), (4, .int .u64 (valF 0 ((bs.drop (8 * 1)).take i))), (5, .int .i64 (i : Int))] ∧ Cx w [] w_ [] [] ∧ (i ≤ 8)) ⟨_, _, ⟨0, rfl, rfl, hC, Nat.zero_le _⟩, sub_of ⟨rfl, rfl, rfl, rfl, trivial⟩⟩ (fun m12 E_ w13 K9 hK10 hI11 => ?_)
 obtain ⟨i, rfl, rfl, hC14, hi⟩ := hI11
 refine WC.seq (fun K15 hK16 => ?_)
 refine WC.seq (fun K17 hK18 => ?_)
 refine WC.region ?_
 refine WL.runs 2 [(7, .bool (decide ((i : Int) < 8))), (6, .int .i64 (i : Int))] (fun _ => by kernel_rfl) ?_
 refine WL.done rfl ?_
 refine QX.then_normal (hK18 _ _ ?_)
 refine WC.test_at 7 (decide ((i : Int) < 8)) rfl (fun t19b => ?_) (fun t19b => ?_)
 ·
  have t19 : (i : Int) < 8 := by have q_ := of_decide_eq_true t19b; omega
  obtain ⟨hg0_, hg1_⟩ := grp_lt hb 0 (j := i) (by omega)
  obtain ⟨hg2_, hg3_⟩ := grp_lt hb 1 (j := i) (by omega)
  refine WC.cond_true rfl ?_
  refine WC.skip ?_
  refine QX.then_normal (hK16 _ _ ?_)
  refine WC.seq (fun K20 hK21 => ?_)
  refine WC.block ?_
  refine WC.drawC hC14 [] (by kernel_rfl) (fun w22 hF23 hC24 hS25 => ?_)
  refine WD.pure (NoPanic.block (NoPanic.then (NoPanic.then (NoPanic.block (NoPanic.then hN))))) 0 10 (.int .u64 (valF 0 ((bs.drop (8 * 0)).take i))) (by kernel_rfl) (fun _ => by kernel_rfl) hS25 ?_
  refine WD.pure (NoPanic.block (NoPanic.then (NoPanic.then (NoPanic.block (NoPanic.then hN))))) 1 11 (.int .u64 (IntKind.u64.wrap ((valF 0 ((bs.drop (8 * 0)).take i)) * 2 ^ 8))) (by kernel_rfl) (fun _ => by kernel_rfl) hS25 ?_
  refine WD.recast (show (.int .u64 (IntKind.u64.wrap ((valF 0 ((bs.drop (8 * 0)).take i)) * 2 ^ 8)) : Value) = .int .u64 (IntKind.u64.wrap ((valF 0 ((bs.drop (8 * 0)).take i)) * 2 ^ 8)) from rfl) ?_
  refine WD.pure (NoPanic.block (NoPanic.then (NoPanic.then (NoPanic.block (NoPanic.then hN))))) 2 12 (.slice A bs.length c) (by kernel_rfl) (fun _ => by kernel_rfl) hS25 ?_
  refine WD.pure (NoPanic.block (NoPanic.then (NoPanic.then (NoPanic.block (NoPanic.then hN))))) 3 13 (.int .i64 (i : Int)) (by kernel_rfl) (fun _ => by kernel_rfl) hS25 ?_
  obtain ⟨e26, he27⟩ := get_some (xs := bs) (i := i) (by omega)
  obtain ⟨b28, o30, hA29, hc31⟩ := hr.at_ _ _ he27
  refine WD.index (NoPanic.block (NoPanic.then (NoPanic.then (NoPanic.block (NoPanic.then hN))))) 4 A bs.length c 14 .i64 (i : Int) b28 o30 i 1 (by kernel_rfl) (by kernel_rfl) hA29 (by omega) (by omega) (o30 + i) (by first | (simp; done) | omega) hS25 ?_
  refine WD.pure (NoPanic.block (NoPanic.then (NoPanic.then (NoPanic.block (NoPanic.then hN))))) 8 18 (.int .u64 (valF 0 ((bs.drop (8 * 1)).take i))) (by kernel_rfl) (fun _ => by kernel_rfl) hS25 ?_
  refine WD.pure (NoPanic.block (NoPanic.then (NoPanic.then (NoPanic.block (NoPanic.then hN))))) 9 19 (.int .u64 (IntKind.u64.wrap ((valF 0 ((bs.drop (8 * 1)).take i)) * 2 ^ 8))) (by kernel_rfl) (fun _ => by kernel_rfl) hS25 ?_
  refine WD.recast (show (.int .u64 (IntKind.u64.wrap ((valF 0 ((bs.drop (8 * 1)).take i)) * 2 ^ 8)) : Value) = .int .u64 (IntKind.u64.wrap ((valF 0 ((bs.drop (8 * 1)).take i)) * 2 ^ 8)) from rfl) ?_
  refine WD.pure (NoPanic.block (NoPanic.then (NoPanic.then (NoPanic.block (NoPanic.then hN))))) 10 20 (.slice A bs.length c) (by kernel_rfl) (fun _ => by kernel_rfl) hS25 ?_
  refine WD.pure (NoPanic.block (NoPanic.then (NoPanic.then (NoPanic.block (NoPanic.then hN))))) 11 21 (.int .i64 (i : Int)) (by kernel_rfl) (fun _ => by kernel_rfl) hS25 ?_
  refine WD.pure (NoPanic.block (NoPanic.then (NoPanic.then (NoPanic.block (NoPanic.then hN))))) 12 22 (.int .i64 (IntKind.i64.wrap (8 + (i : Int)))) (by kernel_rfl) (fun _ => by kernel_rfl) hS25 ?_
  refine WD.recast (show (.int .i64 (IntKind.i64.wrap (8 + (i : Int))) : Value) = .int .i64 (8 + (i : Int)) from by rw [wrap_in_i64 (8 + (i : Int)) (by omega) (by omega)]) ?_
  obtain ⟨e32, he33⟩ := get_some (xs := bs) (i := 8 + i) (by omega)
  obtain ⟨b34, o36, hA35, hc37⟩ := hr.at_ _ _ he33
  refine WD.index (NoPanic.block (NoPanic.then (NoPanic.then (NoPanic.block (NoPanic.then hN))))) 13 A bs.length c 23 .i64 (8 + (i : Int)) b34 o36 (8 + i) 1 (by kernel_rfl) (by kernel_rfl) hA35 (by omega) (by omega) (o36 + (8 + i)) (by first | (simp; done) | omega) hS25 ?_
  refine WD.load (NoPanic.block (NoPanic.then (NoPanic.then (NoPanic.block (NoPanic.then hN))))) 5 5 (.pointer (some ⟨b28, o30 + i, none⟩)) (.int .u8 e26) 15 (by kernel_rfl) (by kernel_rfl) (fun _ hS_ => run_load1 rfl (by simpa [Nat.add_assoc] using Fr.cell hS_ (hC24.fr.cell (hc31 0 _ rfl) (by simp)) (by simp))) hS25 ?_
  refine WD.pure (NoPanic.block (NoPanic.then (NoPanic.then (NoPanic.block (NoPanic.then hN))))) 6 16 (.int .u64 (IntKind.u64.wrap (e26))) (by kernel_rfl) (fun _ => by kernel_rfl) hS25 ?_
  refine WD.recast (show (.int .u64 (IntKind.u64.wrap (e26)) : Value) = .int .u64 e26 from congrArg (Value.int .u64) (by have z_ := hb _ (List.mem_of_getElem? he27); rw [wrap_in_u64 _ (by omega) (by omega)])) ?_
  refine WD.pure (NoPanic.block (NoPanic.then (NoPanic.then (NoPanic.block (NoPanic.then hN))))) 7 17 (.int .u64 (Go.bits .or .u64 (IntKind.u64.wrap ((valF 0 ((bs.drop (8 * 0)).take i)) * 2 ^ 8)) e26)) (by kernel_rfl) (fun _ => by kernel_rfl) hS25 ?_
  refine WD.recast (show (.int .u64 (Go.bits .or .u64 (IntKind.u64.wrap ((valF 0 ((bs.drop (8 * 0)).take i)) * 2 ^ 8)) e26) : Value) = .int .u64 (valF 0 ((bs.drop (8 * 0)).take (i + 1))) from congrArg (Value.int .u64) (by rw [or_byte hg0_ hg1_ (hb _ (List.mem_of_getElem? he27)).1 (hb _ (List.mem_of_getElem? he27)).2]; exact (valF_grp he27 (by omega)).symm)) ?_
  refine WD.pure (NoPanic.block (NoPanic.then (NoPanic.then (NoPanic.block (NoPanic.then hN))))) 17 3 (.int .u64 (valF 0 ((bs.drop (8 * 0)).take (i + 1)))) (by kernel_rfl) (fun _ => by kernel_rfl) hS25 ?_
  refine WD.load (NoPanic.block (NoPanic.then (NoPanic.then (NoPanic.block (NoPanic.then hN))))) 14 5 (.pointer (some ⟨b34, o36 + (8 + i), none⟩)) (.int .u8 e32) 24 (by kernel_rfl) (by kernel_rfl) (fun _ hS_ => run_load1 rfl (by simpa [Nat.add_assoc] using Fr.cell hS_ (hC24.fr.cell (hc37 0 _ rfl) (by simp)) (by simp))) hS25 ?_
  refine WD.pure (NoPanic.block (NoPanic.then (NoPanic.then (NoPanic.block (NoPanic.then hN))))) 15 25 (.int .u64 (IntKind.u64.wrap (e32))) (by kernel_rfl) (fun _ => by kernel_rfl) hS25 ?_
  refine WD.recast (show (.int .u64 (IntKind.u64.wrap (e32)) : Value) = .int .u64 e32 from congrArg (Value.int .u64) (by have z_ := hb _ (List.mem_of_getElem? he33); rw [wrap_in_u64 _ (by omega) (by omega)])) ?_
  refine WD.pure (NoPanic.block (NoPanic.then (NoPanic.then (NoPanic.block (NoPanic.then hN))))) 16 26 (.int .u64 (Go.bits .or .u64 (IntKind.u64.wrap ((valF 0 ((bs.drop (8 * 1)).take i)) * 2 ^ 8)) e32)) (by kernel_rfl) (fun _ => by kernel_rfl) hS25 ?_
  refine WD.recast (show (.int .u64 (Go.bits .or .u64 (IntKind.u64.wrap ((valF 0 ((bs.drop (8 * 1)).take i)) * 2 ^ 8)) e32) : Value) = .int .u64 (valF 0 ((bs.drop (8 * 1)).take (i + 1))) from congrArg (Value.int .u64) (by rw [or_byte hg2_ hg3_ (hb _ (List.mem_of_getElem? he33)).1 (hb _ (List.mem_of_getElem? he33)).2]; exact (valF_grp he33 (by omega)).symm)) ?_
  refine WD.pure (NoPanic.block (NoPanic.then (NoPanic.then (NoPanic.block (NoPanic.then hN))))) 18 4 (.int .u64 (valF 0 ((bs.drop (8 * 1)).take (i + 1)))) (by kernel_rfl) (fun _ => by kernel_rfl) hS25 ?_
  refine WD.done (by kernel_rfl) ?_
  refine QX.block_normal ?_
  refine QX.then_normal (hK21 _ _ ?_)
  refine WC.region ?_
  refine WL.runs 2 [(9, .int .i64 (IntKind.i64.wrap ((i : Int) + 1))), (8, .int .i64 (i : Int))] (fun _ => by kernel_rfl) ?_
  refine WL.recast (show (.int .i64 (IntKind.i64.wrap ((i : Int) + 1)) : Value) = .int .i64 ((i : Int) + 1) from by rw [wrap_in_i64 ((i : Int) + 1) (by omega) (by omega)]) ?_
  refine WL.runs 1 [(5, .int .i64 ((i : Int) + 1))] (fun _ => by kernel_rfl) ?_
  refine WL.done rfl ?_
  refine QX.then_normal ?_
  have hC38 := hC24.pick [] [] rfl rfl
  refine fun a_ ha_ => hK10 _ _ _ ?_ ⟨i + 1, rfl, rfl, hC38, by omega⟩ a_ (ha_.weaken (sub_of ⟨rfl, rfl, rfl, rfl, trivial⟩))
  omega
 ·
  have t19 : (8 : Int) ≤ (i : Int) := by have q_ := of_decide_eq_false t19b; omega
  refine WC.cond_false rfl ?_
  refine WC.exit ?_
  refine QX.then_exit ?_
  refine QX.then_exit ?_
  refine QX.block_hit ?_
  refine QX.then_normal (hK6 _ _ ?_)
  refine WC.seq (fun K39 hK40 => ?_)
  refine WC.region ?_
  refine WL.runs 2 [(28, .int .i64 (IntKind.i64.wrap (valF 0 ((bs.drop (8 * 0)).take i)))), (27, .int .u64 (valF 0 ((bs.drop (8 * 0)).take i)))] (fun _ => by kernel_rfl) ?_
  refine WL.recast (show (.int .i64 (IntKind.i64.wrap (valF 0 ((bs.drop (8 * 0)).take i))) : Value) = .int .i64 (numAt bs 0) from congrArg (Value.int .i64) (by have hi_ : i = 8 := (by omega); subst hi_; rfl)) ?_
  refine WL.runs 2 [(30, .int .i64 (IntKind.i64.wrap (valF 0 ((bs.drop (8 * 1)).take i)))), (29, .int .u64 (valF 0 ((bs.drop (8 * 1)).take i)))] (fun _ => by kernel_rfl) ?_
  refine WL.recast (show (.int .i64 (IntKind.i64.wrap (valF 0 ((bs.drop (8 * 1)).take i))) : Value) = .int .i64 (numAt bs 1) from congrArg (Value.int .i64) (by have hi_ : i = 8 := (by omega); subst hi_; rfl)) ?_
  refine WL.runs 1 [(31, .agg #[.int .i64 (numAt bs 0), .int .i64 (numAt bs 1)])] (fun _ => by kernel_rfl) ?_
  refine WL.call rfl rfl rfl rfl rfl (by kernel_rfl) (RGoodB_ct (numAt bs 0) (numAt bs 1) w13) ?_
  rintro _ w42 ⟨rfl, hF41⟩
  refine ⟨_, rfl, ?_⟩
  have hC43 := hC14.call hF41
  refine WL.runs 1 [(2, .bool (goodBal (numAt bs 0) (numAt bs 1)))] (fun _ => by kernel_rfl) ?_
  refine WL.done rfl ?_
  refine QX.then_normal (hK40 _ _ ?_)
  refine WC.ret ?_
  refine (hret _ _ _ rfl ?_).1
  clear hN hret hret' hK40 hK18 hK16 hK8 hK6 hK4 hK2
  rw [balOk_num h16]
  exact ⟨rfl, hC43.fr⟩

set_option maxHeartbeats 4000000 in
theorem opens_ct (A B : Option Addr) (c c2 : Nat) (pr vo : List Int) (has also : Bool) (w : World) (hr : Rd w 1 (Go.Tw.encI .u8) A pr) (hr2 : Rd w 1 (Go.Tw.encI .u8) B vo) (hbp : byteL pr) (hbv : byteL vo) (hl1 : pr.length ≤ 1048576) (hl2 : vo.length ≤ 1048576) (hc1 : pr.length ≤ c) (hc2 : vo.length ≤ c2) : Calls Try.prog 18 #[.slice A pr.length c, .slice B vo.length c2, .bool has, .bool also] w fun e w' => e = .returned (.bool true) ∧ Fr w w' [] := by
 refine enterD (n := 107) Try.func18 rfl rfl (Nat.le_of_ble_eq_true rfl) ?_
 intro Q0 hN hret hret'
 have hC := Cx.start w
 refine WC.seq (fun K1 hK2 => ?_)
 refine WC.region ?_
 refine WL.runs 1 [(8, .bool false)] (fun _ => by kernel_rfl) ?_
 refine WL.done rfl ?_
 refine QX.then_normal (hK2 _ _ ?_)
 refine WC.seq (fun K3 hK4 => ?_)
 refine WC.seq (fun K5 hK6 => ?_)
 refine WC.region ?_
 refine WL.call rfl rfl rfl rfl rfl (by kernel_rfl) (alive_ct w) ?_
 rintro _ w8 ⟨rfl, hF7⟩
 refine ⟨_, rfl, ?_⟩
 have hC9 := hC.call hF7
 refine WL.runs 1 [(18, .bool false)] (fun _ => by kernel_rfl) ?_
 refine WL.done rfl ?_
 refine QX.then_normal (hK6 _ _ ?_)
 refine WC.cond_false rfl ?_
 refine WC.skip ?_
 refine QX.then_normal (hK4 _ _ ?_)
 refine WC.seq (fun K10 hK11 => ?_)
 refine WC.seq (fun K12 hK13 => ?_)
 refine WC.region ?_
 refine WL.runs 5 [(23, .int .i64 (IntKind.i64.wrap ((pr.length : Int) + (vo.length : Int)))), (22, .int .i64 (vo.length : Int)), (21, .slice B vo.length c2), (20, .int .i64 (pr.length : Int)), (19, .slice A pr.length c)] (fun _ => by kernel_rfl) ?_
 refine WL.recast (show (.int .i64 (IntKind.i64.wrap ((pr.length : Int) + (vo.length : Int))) : Value) = .int .i64 ((pr.length : Int) + (vo.length : Int)) from by rw [wrap_in_i64 ((pr.length : Int) + (vo.length : Int)) (by omega) (by omega)]) ?_
 refine WL.runs 1 [(24, .bool (decide (((pr.length : Int) + (vo.length : Int)) > 8192)))] (fun _ => by kernel_rfl) ?_
 refine WL.done rfl ?_
 refine QX.then_normal (hK13 _ _ ?_)
 refine WC.test_at 24 (decide (((pr.length : Int) + (vo.length : Int)) > 8192)) rfl (fun t14b => ?_) (fun t14b => ?_)
 ·
  have t14 : (8192 : Int) < ((pr.length : Int) + (vo.length : Int)) := by have q_ := of_decide_eq_true t14b; omega
  refine WC.cond_true rfl ?_
  refine WC.seq (fun K15 hK16 => ?_)
  refine WC.region ?_
  refine WL.runs 1 [(8, .bool true)] (fun _ => by kernel_rfl) ?_
  refine WL.done rfl ?_
  refine QX.then_normal (hK16 _ _ ?_)
  refine WC.ret ?_
  refine QX.then_ret ?_
  refine (hret _ _ _ rfl ?_).1
  clear hN hret hret' hK16 hK13 hK11 hK6 hK4 hK2
  exact ⟨rfl, hC9.fr⟩
 ·
  have t14 : ((pr.length : Int) + (vo.length : Int)) ≤ 8192 := by have q_ := of_decide_eq_false t14b; omega
  refine WC.cond_false rfl ?_
  refine WC.skip ?_
  refine QX.then_normal (hK11 _ _ ?_)
  refine WC.seq (fun K17 hK18 => ?_)
  refine WC.region ?_
  refine WL.call rfl rfl rfl rfl rfl (by kernel_rfl) (New_ct 1048576 w8 (by omega) (by omega)) ?_
  rintro _ w22 ⟨p19, F20, rfl, hF21, hT24, hge25⟩
  have hC23 := hC9.callN hF21 hge25 (stAt_lt hT24)
  refine ⟨_, rfl, ?_⟩
  refine WL.runs 5 [(10, .nilIface), (9, .pointer (some ⟨p19, 0, none⟩)), (28, .nilIface), (27, .pointer (some ⟨p19, 0, none⟩)), (25, .tuple #[.pointer (some ⟨p19, 0, none⟩), .nilIface])] (fun _ => by kernel_rfl) ?_
  refine WL.done rfl ?_
  refine QX.then_normal (hK18 _ _ ?_)
  refine WC.seq (fun K27 hK28 => ?_)
  refine WC.seq (fun K29 hK30 => ?_)
  refine WC.region ?_
  refine WL.runs 6 [(34, .bool false), (33, .bool false), (32, .pointer (some ⟨p19, 0, none⟩)), (31, .bool false), (30, .bool false), (29, .nilIface)] (fun _ => by kernel_rfl) ?_
  refine WL.done rfl ?_
  refine QX.then_normal (hK30 _ _ ?_)
  refine WC.cond_false rfl ?_
  refine WC.skip ?_
  refine QX.then_normal (hK28 _ _ ?_)
  refine WC.seq (fun K31 hK32 => ?_)
  refine WC.region ?_
  refine WL.runs 1 [(11, .bool true)] (fun _ => by kernel_rfl) ?_
  refine WL.done rfl ?_
  refine QX.then_normal (hK32 _ _ ?_)
  refine WC.seq (fun K33 hK34 => ?_)
  refine WC.seq (fun K35 hK36 => ?_)
  refine WC.region ?_
  refine WL.runs 1 [(35, .bool has)] (fun _ => by kernel_rfl) ?_
  refine WL.done rfl ?_
  refine QX.then_normal (hK36 _ _ ?_)
  refine WC.test_at 35 (has) rfl (fun t37b => ?_) (fun t37b => ?_)
  ·
   refine WC.cond_true rfl ?_
   refine WC.seq (fun K38 hK39 => ?_)
   refine WC.region ?_
   refine WL.runs 2 [(37, .slice A pr.length c), (36, .pointer (some ⟨p19, 0, none⟩))] (fun _ => by kernel_rfl) ?_
   refine WL.newM hC23 (fun b => .slice (some ⟨b, 0, none⟩) 1 1) (.cells #[.slice A pr.length c] 22) 38 (fun _ => by kernel_rfl) (fun g40 w41 hb44 hF42 hC43 => ?_)
   have hf45 := stAt_fr hT24 hF42 (by simp)
   have hr46 : ∀ r_ ∈ ([(⟨A, pr.length, c, pr⟩ : BRow)] : List BRow), rowAt w41 r_ := by
    intro r_ hr_; simp only [List.mem_cons, List.not_mem_nil, or_false] at hr_
    rcases hr_ with rfl
    ·
     exact ⟨(Rd.fr hr hC43.fr), (by first | rfl | assumption | (simp; done) | (simp; omega)), hbp⟩
   refine WL.call rfl rfl rfl rfl rfl (by kernel_rfl) (Put_any F20 p19 [] [] 1048576 kP (some ⟨g40, 0, none⟩) 1 [(⟨A, pr.length, c, pr⟩ : BRow)] pr w41 hf45 (Rd.blk (hC43.get 0 rfl) cellB_len rfl) hr46 (by simp) (cat1 _ _ _ _)) ?_
   rintro _ w48 ⟨F51, rfl, hF47, hT50, hsub52⟩
   have hT50' : stAt w48 F51 p19 (putS [] 1048576 kP pr) [] 1048576 := hT50
   have hC49 := hC43.callF 0 rfl hF47 hsub52 (stAt_lt hT50')
   refine ⟨_, rfl, ?_⟩
   refine WL.done rfl ?_
   refine QX.then_normal (hK39 _ _ ?_)
   refine WC.region ?_
   refine WL.runs 4 [(43, .bool ((pr.length : Int) == 16)), (42, .bool ((pr.length : Int) == 16)), (41, .int .i64 (pr.length : Int)), (40, .slice A pr.length c)] (fun _ => by kernel_rfl) ?_
   refine WL.test_at 43 ((pr.length : Int) == 16) rfl (fun t53b => ?_) (fun t53b => ?_)
   ·
    have t53 : (pr.length : Int) = 16 := by simpa using t53b
    refine WL.runs 1 [(44, .slice A pr.length c)] (fun _ => by kernel_rfl) ?_
    refine WL.call rfl rfl rfl rfl rfl (by kernel_rfl) (good_ct A c pr w48 (Rd.fr hr hC49.fr) hbp (by omega)) ?_
    rintro _ w55 ⟨rfl, hF54⟩
    refine ⟨_, rfl, ?_⟩
    have hC56 := hC49.call hF54
    have hf57 := stAt_fr hT50' hF54 (by simp)
    refine WL.runs 2 [(11, .bool (balOk pr)), (46, .bool (balOk pr))] (fun _ => by kernel_rfl) ?_
    refine WL.done rfl ?_
    refine QX.then_normal (hK34 _ _ ?_)
    refine WC.seq (fun K58 hK59 => ?_)
    refine WC.seq (fun K60 hK61 => ?_)
    refine WC.region ?_
    refine WL.runs 1 [(47, .bool also)] (fun _ => by kernel_rfl) ?_
    refine WL.done rfl ?_
    refine QX.then_normal (hK61 _ _ ?_)
    refine WC.test_at 47 (also) rfl (fun t62b => ?_) (fun t62b => ?_)
    ·
     refine WC.cond_true rfl ?_
     refine WC.seq (fun K63 hK64 => ?_)
     refine WC.region ?_
     refine WL.runs 2 [(49, .slice B vo.length c2), (48, .pointer (some ⟨p19, 0, none⟩))] (fun _ => by kernel_rfl) ?_
     refine WL.newM hC56 (fun b => .slice (some ⟨b, 0, none⟩) 1 1) (.cells #[.slice B vo.length c2] 22) 50 (fun _ => by kernel_rfl) (fun g65 w66 hb69 hF67 hC68 => ?_)
     have hf70 := stAt_fr hf57 hF67 (by simp)
     have hr71 : ∀ r_ ∈ ([(⟨B, vo.length, c2, vo⟩ : BRow)] : List BRow), rowAt w66 r_ := by
      intro r_ hr_; simp only [List.mem_cons, List.not_mem_nil, or_false] at hr_
      rcases hr_ with rfl
      ·
       exact ⟨(Rd.fr hr2 hC68.fr), (by first | rfl | assumption | (simp; done) | (simp; omega)), hbv⟩
     refine WL.call rfl rfl rfl rfl rfl (by kernel_rfl) (Put_any F51 p19 (putS [] 1048576 kP pr) [] 1048576 kV (some ⟨g65, 0, none⟩) 1 [(⟨B, vo.length, c2, vo⟩ : BRow)] vo w66 hf70 (Rd.blk (hC68.get 1 rfl) cellB_len rfl) hr71 (by simp) (cat1 _ _ _ _)) ?_
     rintro _ w73 ⟨F76, rfl, hF72, hT75, hsub77⟩
     have hT75' : stAt w73 F76 p19 (putS (putS [] 1048576 kP pr) 1048576 kV vo) [] 1048576 := hT75
     have hC74 := hC68.callF 0 rfl hF72 hsub77 (stAt_lt hT75')
     refine ⟨_, rfl, ?_⟩
     refine WL.done rfl ?_
     refine QX.then_normal (hK64 _ _ ?_)
     refine WC.seq (fun K78 hK79 => ?_)
     refine WC.region ?_
     refine WL.runs 2 [(53, .bool (balOk pr)), (52, .bool (balOk pr))] (fun _ => by kernel_rfl) ?_
     refine WL.test_at 53 (balOk pr) rfl (fun t80b => ?_) (fun t80b => ?_)
     ·
      refine WL.runs 5 [(58, .bool (decide ((vo.length : Int) ≥ 16))), (57, .bool (decide ((vo.length : Int) ≥ 16))), (56, .bool (decide ((vo.length : Int) ≥ 16))), (55, .int .i64 (vo.length : Int)), (54, .slice B vo.length c2)] (fun _ => by kernel_rfl) ?_
      refine WL.test_at 58 (decide ((vo.length : Int) ≥ 16)) rfl (fun t81b => ?_) (fun t81b => ?_)
      ·
       have t81 : (16 : Int) ≤ (vo.length : Int) := by have q_ := of_decide_eq_true t81b; omega
       refine WL.runs 1 [(59, .slice B vo.length c2)] (fun _ => by kernel_rfl) ?_
       refine WL.call rfl rfl rfl rfl rfl (by kernel_rfl) (good_ct B c2 vo w73 (Rd.fr hr2 hC74.fr) hbv (by omega)) ?_
       rintro _ w83 ⟨rfl, hF82⟩
       refine ⟨_, rfl, ?_⟩
       have hC84 := hC74.call hF82
       have hf85 := stAt_fr hT75' hF82 (by simp)
       refine WL.runs 2 [(11, .bool (balOk vo)), (61, .bool (balOk vo))] (fun _ => by kernel_rfl) ?_
       refine WL.done rfl ?_
       refine QX.then_normal (hK79 _ _ ?_)
       refine WC.seq (fun K86 hK87 => ?_)
       refine WC.region ?_
       refine WL.runs 1 [(62, .bool (balOk vo))] (fun _ => by kernel_rfl) ?_
       refine WL.done rfl ?_
       refine QX.then_normal (hK87 _ _ ?_)
       refine WC.test_at 62 (balOk vo) rfl (fun t88b => ?_) (fun t88b => ?_)
       ·
        refine WC.cond_true rfl ?_
        refine WC.seq (fun K89 hK90 => ?_)
        refine WC.region ?_
        refine WL.runs 1 [(64, .slice B vo.length c2)] (fun _ => by kernel_rfl) ?_
        obtain ⟨A91, hA92⟩ : ∃ A_, slcAt B 16 c2 1 = A_ := ⟨_, rfl⟩
        have hb93 : vo.length ≤ c2 := by omega
        refine WL.slc 22 5 1 B A91 vo.length c2 16 vo.length (vo.length - 16) (c2 - 16) (some (.int .i64 16)) none 65 (by kernel_rfl) (by kernel_rfl) (bnd.yes (by omega)) bnd.no (by omega) hb93 hA92 (by first | rfl | omega) (by first | rfl | omega) ?_
        have hrd94 := Rd.slc hr2 16 vo.length c2 hb93 hA92
        refine WL.call rfl rfl rfl rfl rfl (by kernel_rfl) (RRead_n A91 (vo.length - 16) (c2 - 16) ((vo.take vo.length).drop 16) w83 (Rd.fr hrd94 hC84.fr) (by simp) (fun x_ hx_ => hbv x_ (List.mem_of_mem_take (List.mem_of_mem_drop hx_))) (by omega)) ?_
        rintro _ w100 ⟨A95, c96, L97, R98, rfl, hF99, ho101, hli102, hvv103, hRg104, hdd105⟩
        have hC106 := callNN hC84 hF99 (own_ge ho101) (own_lt ho101) (fun x_ h_ => (hRg104 x_ h_).1) (fun x_ h_ => (hRg104 x_ h_).2) hdd105
        have ho107 := own_base (b' := 0) ho101 (fun _ _ => Nat.zero_le _)
        refine ⟨_, rfl, ?_⟩
        have hf108 := stAt_fr hf85 hF99 (by simp)
        refine WL.runs 5 [(13, .int .i64 (if readOk ((vo.take vo.length).drop 16) then (0 : Int) else 3)), (12, .slice A95 L97.length c96), (68, .int .i64 (if readOk ((vo.take vo.length).drop 16) then (0 : Int) else 3)), (67, .slice A95 L97.length c96), (63, .tuple #[.slice A95 L97.length c96, .int .i64 (if readOk ((vo.take vo.length).drop 16) then (0 : Int) else 3)])] (fun _ => by kernel_rfl) ?_
        refine WL.done rfl ?_
        refine QX.then_normal (hK90 _ _ ?_)
        refine WC.region ?_
        refine WL.runs 2 [(70, .bool ((if readOk ((vo.take vo.length).drop 16) then (0 : Int) else 3) == 0)), (69, .int .i64 (if readOk ((vo.take vo.length).drop 16) then (0 : Int) else 3))] (fun _ => by kernel_rfl) ?_
        refine WL.recast (show (.bool ((if readOk ((vo.take vo.length).drop 16) then (0 : Int) else 3) == 0) : Value) = .bool (readOk (vo.drop 16)) from congrArg Value.bool (by rw [List.take_length]; cases readOk (vo.drop 16) <;> rfl)) ?_
        refine WL.runs 1 [(11, .bool (readOk (vo.drop 16)))] (fun _ => by kernel_rfl) ?_
        refine WL.done rfl ?_
        refine QX.then_normal (hK59 _ _ ?_)
        refine WC.seq (fun K110 hK111 => ?_)
        refine WC.region ?_
        refine WL.runs 1 [(72, .pointer (some ⟨p19, 0, none⟩))] (fun _ => by kernel_rfl) ?_
        have hw_ : openOk (putS (putS [] 1048576 kP pr) 1048576 kV vo) = (readOk (vo.drop 16)) := by
         first
         | (rw [open_PV (by omega) (by omega), proOk_eq, votOk_eq]; done)
         | (rw [open_PV (by omega) (by omega), proOk_eq, votOk_eq]; first | rfl | (simp [(show decide (pr.length = 16) = true from decide_eq_true (by omega)), t80b, (show decide (16 ≤ vo.length) = true from decide_eq_true (by omega)), t88b]; done) | (simp_all; done))
        refine WL.call rfl rfl rfl rfl rfl (by kernel_rfl) (Open_ct F76 p19 (putS (putS [] 1048576 kP pr) 1048576 kV vo) [] 1048576 20 w100 hf108 ⟨by decide, by decide⟩ (by decide)) ?_
        rintro _ w115 (⟨hok119, p112, FV113, rfl, hF114, hvo117, hfv118⟩ | ⟨hok119, rfl, hF114⟩)
        ·
         have hC116 := absorbC hC106 0 rfl hF114 hfv118 (voAt_lt hvo117)
         refine ⟨_, rfl, ?_⟩
         have hvs120 : vsAt w115 (F76 ++ FV113) p112 (openV (putS (putS [] 1048576 kP pr) 1048576 kV vo) 20) p19 (putS (putS [] 1048576 kP pr) 1048576 kV vo) [] 1048576 := ⟨FV113, F76, hvo117, stAt_fr hf108 hF114 (fun _ _ => by simp), (fun x_ h1_ h2_ => absurd (stAt_lt hf108 x_ h2_) (Nat.not_lt.2 (hfv118 x_ h1_))), rfl⟩
         have ho121 := own_fr ho107 hF114 (by simp)
         have hl122 := logIn.fr hli102 hF114 (by simp)
         refine WL.runs 5 [(10, .nilIface), (14, .pointer (some ⟨p112, 0, none⟩)), (75, .nilIface), (74, .pointer (some ⟨p112, 0, none⟩)), (71, .tuple #[.pointer (some ⟨p112, 0, none⟩), .nilIface])] (fun _ => by kernel_rfl) ?_
         refine WL.done rfl ?_
         refine QX.then_normal (hK111 _ _ ?_)
         refine WC.seq (fun K123 hK124 => ?_)
         refine WC.region ?_
         refine WL.call rfl rfl rfl rfl rfl (by kernel_rfl) (Open_nil 20 w115) ?_
         rintro _ w126 ⟨rfl, hF125⟩
         refine ⟨_, rfl, ?_⟩
         have hC127 := hC116.call hF125
         have ho128 := own_fr ho121 hF125 (by simp)
         have hl129 := logIn.fr hl122 hF125 (by simp)
         have hvs130 := vsAt_fr hvs120 hF125 (by simp)
         refine WL.runs 5 [(16, .iface 35 (.int .i64 9)), (15, .pointer none), (79, .iface 35 (.int .i64 9)), (78, .pointer none), (76, .tuple #[.pointer none, .iface 35 (.int .i64 9)])] (fun _ => by kernel_rfl) ?_
         refine WL.done rfl ?_
         refine QX.then_normal (hK124 _ _ ?_)
         refine WC.seq (fun K131 hK132 => ?_)
         refine WC.region ?_
         refine WL.runs 5 [(84, .bool (true == (readOk (vo.drop 16)))), (83, .bool (true == (readOk (vo.drop 16)))), (82, .bool (readOk (vo.drop 16))), (81, .bool true), (80, .nilIface)] (fun _ => by kernel_rfl) ?_
         refine WL.know 84 (.bool (true == (readOk (vo.drop 16)))) (.bool true) rfl (congrArg Value.bool (by rw [hw_.symm.trans hok119]; rfl)) ?_
         refine WL.runs 6 [(90, .bool (true == (readOk (vo.drop 16)))), (89, .bool (true == (readOk (vo.drop 16)))), (88, .bool (true == (readOk (vo.drop 16)))), (87, .bool (readOk (vo.drop 16))), (86, .bool true), (85, .pointer (some ⟨p112, 0, none⟩))] (fun _ => by kernel_rfl) ?_
         refine WL.know 90 (.bool (true == (readOk (vo.drop 16)))) (.bool true) rfl (congrArg Value.bool (by rw [hw_.symm.trans hok119]; rfl)) ?_
         refine WL.runs 2 [(92, .bool (readOk (vo.drop 16))), (91, .bool (readOk (vo.drop 16)))] (fun _ => by kernel_rfl) ?_
         refine WL.test_at 92 (readOk (vo.drop 16)) rfl (fun t133b => ?_) (fun t133b => ?_)
         ·
          refine WL.runs 15 [(8, .bool true), (106, .bool true), (105, .bool true), (104, .iface 35 (.int .i64 9)), (103, .iface 35 (.int .i64 9)), (102, .bool true), (101, .bool true), (100, .bool true), (99, .pointer none), (98, .bool true), (97, .bool true), (96, .bool true), (95, undef), (94, undef), (93, undef)] (fun _ => by kernel_rfl) ?_
          refine WL.done rfl ?_
          refine QX.then_normal (hK132 _ _ ?_)
          refine WC.ret ?_
          refine (hret _ _ _ rfl ?_).1
          clear hN hret hret' hK132 hK124 hK111 hK90 hK87 hK79 hK64 hK61 hK59 hK39 hK36 hK34 hK32 hK30 hK28 hK18 hK13 hK11 hK6 hK4 hK2
          exact ⟨rfl, hC127.fr⟩
         ·
          refine WL.runs 15 [(8, .bool false), (106, .bool false), (105, undef), (104, undef), (103, undef), (102, .bool false), (101, .bool false), (100, undef), (99, undef), (98, .bool false), (97, .bool false), (96, .bool false), (95, .bool false), (94, .iface 35 (.int .i64 3)), (93, .nilIface)] (fun _ => by kernel_rfl) ?_
          refine WL.done rfl ?_
          refine QX.then_normal (hK132 _ _ ?_)
          refine WC.ret ?_
          refine (hret _ _ _ rfl ?_).1
          clear hN hret hret' hK132 hK124 hK111 hK90 hK87 hK79 hK64 hK61 hK59 hK39 hK36 hK34 hK32 hK30 hK28 hK18 hK13 hK11 hK6 hK4 hK2
          have hz_ := hw_.symm.trans hok119
          exact ⟨congrArg (fun b_ => Ending.returned (Value.bool b_)) (show (false : Bool) = true from by first | (rw [hz_]; rfl) | simp_all), hC127.fr⟩
        ·
         have hC134 := hC106.call hF114
         refine ⟨_, rfl, ?_⟩
         have hf135 := stAt_fr hf108 hF114 (by simp)
         have ho136 := own_fr ho107 hF114 (by simp)
         have hl137 := logIn.fr hli102 hF114 (by simp)
         refine WL.runs 5 [(10, .iface 35 (.int .i64 3)), (14, .pointer none), (75, .iface 35 (.int .i64 3)), (74, .pointer none), (71, .tuple #[.pointer none, .iface 35 (.int .i64 3)])] (fun _ => by kernel_rfl) ?_
         refine WL.done rfl ?_
         refine QX.then_normal (hK111 _ _ ?_)
         refine WC.seq (fun K138 hK139 => ?_)
         refine WC.region ?_
         refine WL.call rfl rfl rfl rfl rfl (by kernel_rfl) (Open_nil 20 w115) ?_
         rintro _ w141 ⟨rfl, hF140⟩
         refine ⟨_, rfl, ?_⟩
         have hC142 := hC134.call hF140
         have hf143 := stAt_fr hf135 hF140 (by simp)
         have ho144 := own_fr ho136 hF140 (by simp)
         have hl145 := logIn.fr hl137 hF140 (by simp)
         refine WL.runs 5 [(16, .iface 35 (.int .i64 9)), (15, .pointer none), (79, .iface 35 (.int .i64 9)), (78, .pointer none), (76, .tuple #[.pointer none, .iface 35 (.int .i64 9)])] (fun _ => by kernel_rfl) ?_
         refine WL.done rfl ?_
         refine QX.then_normal (hK139 _ _ ?_)
         refine WC.seq (fun K146 hK147 => ?_)
         refine WC.region ?_
         refine WL.runs 5 [(84, .bool (false == (readOk (vo.drop 16)))), (83, .bool (false == (readOk (vo.drop 16)))), (82, .bool (readOk (vo.drop 16))), (81, .bool false), (80, .iface 35 (.int .i64 3))] (fun _ => by kernel_rfl) ?_
         refine WL.know 84 (.bool (false == (readOk (vo.drop 16)))) (.bool true) rfl (congrArg Value.bool (by rw [hw_.symm.trans hok119]; rfl)) ?_
         refine WL.runs 6 [(90, .bool (false == (readOk (vo.drop 16)))), (89, .bool (false == (readOk (vo.drop 16)))), (88, .bool (false == (readOk (vo.drop 16)))), (87, .bool (readOk (vo.drop 16))), (86, .bool false), (85, .pointer none)] (fun _ => by kernel_rfl) ?_
         refine WL.know 90 (.bool (false == (readOk (vo.drop 16)))) (.bool true) rfl (congrArg Value.bool (by rw [hw_.symm.trans hok119]; rfl)) ?_
         refine WL.runs 2 [(92, .bool (readOk (vo.drop 16))), (91, .bool (readOk (vo.drop 16)))] (fun _ => by kernel_rfl) ?_
         refine WL.test_at 92 (readOk (vo.drop 16)) rfl (fun t148b => ?_) (fun t148b => ?_)
         ·
          refine WL.runs 15 [(8, .bool true), (106, .bool true), (105, .bool true), (104, .iface 35 (.int .i64 9)), (103, .iface 35 (.int .i64 9)), (102, .bool true), (101, .bool true), (100, .bool true), (99, .pointer none), (98, .bool true), (97, .bool true), (96, .bool true), (95, undef), (94, undef), (93, undef)] (fun _ => by kernel_rfl) ?_
          refine WL.done rfl ?_
          refine QX.then_normal (hK147 _ _ ?_)
          refine WC.ret ?_
          refine (hret _ _ _ rfl ?_).1
          clear hN hret hret' hK147 hK139 hK111 hK90 hK87 hK79 hK64 hK61 hK59 hK39 hK36 hK34 hK32 hK30 hK28 hK18 hK13 hK11 hK6 hK4 hK2
          exact ⟨rfl, hC142.fr⟩
         ·
          refine WL.runs 15 [(8, .bool true), (106, .bool true), (105, .bool true), (104, .iface 35 (.int .i64 9)), (103, .iface 35 (.int .i64 9)), (102, .bool true), (101, .bool true), (100, .bool true), (99, .pointer none), (98, .bool true), (97, .bool true), (96, .bool true), (95, .bool true), (94, .iface 35 (.int .i64 3)), (93, .iface 35 (.int .i64 3))] (fun _ => by kernel_rfl) ?_
          refine WL.done rfl ?_
          refine QX.then_normal (hK147 _ _ ?_)
          refine WC.ret ?_
          refine (hret _ _ _ rfl ?_).1
          clear hN hret hret' hK147 hK139 hK111 hK90 hK87 hK79 hK64 hK61 hK59 hK39 hK36 hK34 hK32 hK30 hK28 hK18 hK13 hK11 hK6 hK4 hK2
          exact ⟨rfl, hC142.fr⟩
       ·
        refine WC.cond_false rfl ?_
        refine WC.skip ?_
        refine QX.then_normal (hK59 _ _ ?_)
        refine WC.seq (fun K149 hK150 => ?_)
        refine WC.region ?_
        refine WL.runs 1 [(72, .pointer (some ⟨p19, 0, none⟩))] (fun _ => by kernel_rfl) ?_
        have hw_ : openOk (putS (putS [] 1048576 kP pr) 1048576 kV vo) = (balOk vo) := by
         first
         | (rw [open_PV (by omega) (by omega), proOk_eq, votOk_eq]; done)
         | (rw [open_PV (by omega) (by omega), proOk_eq, votOk_eq]; first | rfl | (simp [(show decide (pr.length = 16) = true from decide_eq_true (by omega)), t80b, (show decide (16 ≤ vo.length) = true from decide_eq_true (by omega)), t88b]; done) | (simp_all; done))
        refine WL.call rfl rfl rfl rfl rfl (by kernel_rfl) (Open_ct F76 p19 (putS (putS [] 1048576 kP pr) 1048576 kV vo) [] 1048576 20 w83 hf85 ⟨by decide, by decide⟩ (by decide)) ?_
        rintro _ w154 (⟨hok158, p151, FV152, rfl, hF153, hvo156, hfv157⟩ | ⟨hok158, rfl, hF153⟩)
        ·
         have hC155 := absorbC hC84 0 rfl hF153 hfv157 (voAt_lt hvo156)
         refine ⟨_, rfl, ?_⟩
         have hvs159 : vsAt w154 (F76 ++ FV152) p151 (openV (putS (putS [] 1048576 kP pr) 1048576 kV vo) 20) p19 (putS (putS [] 1048576 kP pr) 1048576 kV vo) [] 1048576 := ⟨FV152, F76, hvo156, stAt_fr hf85 hF153 (fun _ _ => by simp), (fun x_ h1_ h2_ => absurd (stAt_lt hf85 x_ h2_) (Nat.not_lt.2 (hfv157 x_ h1_))), rfl⟩
         refine WL.runs 5 [(10, .nilIface), (14, .pointer (some ⟨p151, 0, none⟩)), (75, .nilIface), (74, .pointer (some ⟨p151, 0, none⟩)), (71, .tuple #[.pointer (some ⟨p151, 0, none⟩), .nilIface])] (fun _ => by kernel_rfl) ?_
         refine WL.done rfl ?_
         refine QX.then_normal (hK150 _ _ ?_)
         refine WC.seq (fun K160 hK161 => ?_)
         refine WC.region ?_
         refine WL.call rfl rfl rfl rfl rfl (by kernel_rfl) (Open_nil 20 w154) ?_
         rintro _ w163 ⟨rfl, hF162⟩
         refine ⟨_, rfl, ?_⟩
         have hC164 := hC155.call hF162
         have hvs165 := vsAt_fr hvs159 hF162 (by simp)
         refine WL.runs 5 [(16, .iface 35 (.int .i64 9)), (15, .pointer none), (79, .iface 35 (.int .i64 9)), (78, .pointer none), (76, .tuple #[.pointer none, .iface 35 (.int .i64 9)])] (fun _ => by kernel_rfl) ?_
         refine WL.done rfl ?_
         refine QX.then_normal (hK161 _ _ ?_)
         refine WC.seq (fun K166 hK167 => ?_)
         refine WC.region ?_
         refine WL.runs 5 [(84, .bool (true == (balOk vo))), (83, .bool (true == (balOk vo))), (82, .bool (balOk vo)), (81, .bool true), (80, .nilIface)] (fun _ => by kernel_rfl) ?_
         refine WL.know 84 (.bool (true == (balOk vo))) (.bool true) rfl (congrArg Value.bool (by rw [hw_.symm.trans hok158]; rfl)) ?_
         refine WL.runs 6 [(90, .bool (true == (balOk vo))), (89, .bool (true == (balOk vo))), (88, .bool (true == (balOk vo))), (87, .bool (balOk vo)), (86, .bool true), (85, .pointer (some ⟨p151, 0, none⟩))] (fun _ => by kernel_rfl) ?_
         refine WL.know 90 (.bool (true == (balOk vo))) (.bool true) rfl (congrArg Value.bool (by rw [hw_.symm.trans hok158]; rfl)) ?_
         refine WL.runs 2 [(92, .bool (balOk vo)), (91, .bool (balOk vo))] (fun _ => by kernel_rfl) ?_
         refine WL.know 92 (.bool (balOk vo)) (.bool false) rfl (congrArg Value.bool (by exact t88b)) ?_
         refine WL.runs 15 [(8, .bool false), (106, .bool false), (105, undef), (104, undef), (103, undef), (102, .bool false), (101, .bool false), (100, undef), (99, undef), (98, .bool false), (97, .bool false), (96, .bool false), (95, .bool false), (94, .iface 35 (.int .i64 3)), (93, .nilIface)] (fun _ => by kernel_rfl) ?_
         refine WL.done rfl ?_
         refine QX.then_normal (hK167 _ _ ?_)
         refine WC.ret ?_
         refine (hret _ _ _ rfl ?_).1
         clear hN hret hret' hK167 hK161 hK150 hK87 hK79 hK64 hK61 hK59 hK39 hK36 hK34 hK32 hK30 hK28 hK18 hK13 hK11 hK6 hK4 hK2
         have hz_ := hw_.symm.trans hok158
         exact ⟨congrArg (fun b_ => Ending.returned (Value.bool b_)) (show (false : Bool) = true from by first | (rw [hz_]; rfl) | simp_all), hC164.fr⟩
        ·
         have hC168 := hC84.call hF153
         refine ⟨_, rfl, ?_⟩
         have hf169 := stAt_fr hf85 hF153 (by simp)
         refine WL.runs 5 [(10, .iface 35 (.int .i64 3)), (14, .pointer none), (75, .iface 35 (.int .i64 3)), (74, .pointer none), (71, .tuple #[.pointer none, .iface 35 (.int .i64 3)])] (fun _ => by kernel_rfl) ?_
         refine WL.done rfl ?_
         refine QX.then_normal (hK150 _ _ ?_)
         refine WC.seq (fun K170 hK171 => ?_)
         refine WC.region ?_
         refine WL.call rfl rfl rfl rfl rfl (by kernel_rfl) (Open_nil 20 w154) ?_
         rintro _ w173 ⟨rfl, hF172⟩
         refine ⟨_, rfl, ?_⟩
         have hC174 := hC168.call hF172
         have hf175 := stAt_fr hf169 hF172 (by simp)
         refine WL.runs 5 [(16, .iface 35 (.int .i64 9)), (15, .pointer none), (79, .iface 35 (.int .i64 9)), (78, .pointer none), (76, .tuple #[.pointer none, .iface 35 (.int .i64 9)])] (fun _ => by kernel_rfl) ?_
         refine WL.done rfl ?_
         refine QX.then_normal (hK171 _ _ ?_)
         refine WC.seq (fun K176 hK177 => ?_)
         refine WC.region ?_
         refine WL.runs 5 [(84, .bool (false == (balOk vo))), (83, .bool (false == (balOk vo))), (82, .bool (balOk vo)), (81, .bool false), (80, .iface 35 (.int .i64 3))] (fun _ => by kernel_rfl) ?_
         refine WL.know 84 (.bool (false == (balOk vo))) (.bool true) rfl (congrArg Value.bool (by rw [hw_.symm.trans hok158]; rfl)) ?_
         refine WL.runs 6 [(90, .bool (false == (balOk vo))), (89, .bool (false == (balOk vo))), (88, .bool (false == (balOk vo))), (87, .bool (balOk vo)), (86, .bool false), (85, .pointer none)] (fun _ => by kernel_rfl) ?_
         refine WL.know 90 (.bool (false == (balOk vo))) (.bool true) rfl (congrArg Value.bool (by rw [hw_.symm.trans hok158]; rfl)) ?_
         refine WL.runs 2 [(92, .bool (balOk vo)), (91, .bool (balOk vo))] (fun _ => by kernel_rfl) ?_
         refine WL.know 92 (.bool (balOk vo)) (.bool false) rfl (congrArg Value.bool (by exact t88b)) ?_
         refine WL.runs 15 [(8, .bool true), (106, .bool true), (105, .bool true), (104, .iface 35 (.int .i64 9)), (103, .iface 35 (.int .i64 9)), (102, .bool true), (101, .bool true), (100, .bool true), (99, .pointer none), (98, .bool true), (97, .bool true), (96, .bool true), (95, .bool true), (94, .iface 35 (.int .i64 3)), (93, .iface 35 (.int .i64 3))] (fun _ => by kernel_rfl) ?_
         refine WL.done rfl ?_
         refine QX.then_normal (hK177 _ _ ?_)
         refine WC.ret ?_
         refine (hret _ _ _ rfl ?_).1
         clear hN hret hret' hK177 hK171 hK150 hK87 hK79 hK64 hK61 hK59 hK39 hK36 hK34 hK32 hK30 hK28 hK18 hK13 hK11 hK6 hK4 hK2
         exact ⟨rfl, hC174.fr⟩
      ·
       have t81 : (vo.length : Int) < 16 := by have q_ := of_decide_eq_false t81b; omega
       refine WL.runs 4 [(11, .bool false), (61, .bool false), (60, undef), (59, undef)] (fun _ => by kernel_rfl) ?_
       refine WL.done rfl ?_
       refine QX.then_normal (hK79 _ _ ?_)
       refine WC.seq (fun K178 hK179 => ?_)
       refine WC.region ?_
       refine WL.runs 1 [(62, .bool false)] (fun _ => by kernel_rfl) ?_
       refine WL.done rfl ?_
       refine QX.then_normal (hK179 _ _ ?_)
       refine WC.cond_false rfl ?_
       refine WC.skip ?_
       refine QX.then_normal (hK59 _ _ ?_)
       refine WC.seq (fun K180 hK181 => ?_)
       refine WC.region ?_
       refine WL.runs 1 [(72, .pointer (some ⟨p19, 0, none⟩))] (fun _ => by kernel_rfl) ?_
       have hw_ : openOk (putS (putS [] 1048576 kP pr) 1048576 kV vo) = false := by
        first
        | (rw [open_PV (by omega) (by omega), proOk_eq, votOk_eq]; done)
        | (rw [open_PV (by omega) (by omega), proOk_eq, votOk_eq]; first | rfl | (simp [(show decide (pr.length = 16) = true from decide_eq_true (by omega)), t80b, (show decide (16 ≤ vo.length) = false from decide_eq_false (by omega))]; done) | (simp_all; done))
       refine WL.call rfl rfl rfl rfl rfl (by kernel_rfl) (Open_ct F76 p19 (putS (putS [] 1048576 kP pr) 1048576 kV vo) [] 1048576 20 w73 hT75' ⟨by decide, by decide⟩ (by decide)) ?_
       rintro _ w185 (⟨hok189, p182, FV183, rfl, hF184, hvo187, hfv188⟩ | ⟨hok189, rfl, hF184⟩)
       ·
        have hC186 := absorbC hC74 0 rfl hF184 hfv188 (voAt_lt hvo187)
        refine ⟨_, rfl, ?_⟩
        have hvs190 : vsAt w185 (F76 ++ FV183) p182 (openV (putS (putS [] 1048576 kP pr) 1048576 kV vo) 20) p19 (putS (putS [] 1048576 kP pr) 1048576 kV vo) [] 1048576 := ⟨FV183, F76, hvo187, stAt_fr hT75' hF184 (fun _ _ => by simp), (fun x_ h1_ h2_ => absurd (stAt_lt hT75' x_ h2_) (Nat.not_lt.2 (hfv188 x_ h1_))), rfl⟩
        refine WL.runs 5 [(10, .nilIface), (14, .pointer (some ⟨p182, 0, none⟩)), (75, .nilIface), (74, .pointer (some ⟨p182, 0, none⟩)), (71, .tuple #[.pointer (some ⟨p182, 0, none⟩), .nilIface])] (fun _ => by kernel_rfl) ?_
        refine WL.done rfl ?_
        refine QX.then_normal (hK181 _ _ ?_)
        refine WC.seq (fun K191 hK192 => ?_)
        refine WC.region ?_
        refine WL.call rfl rfl rfl rfl rfl (by kernel_rfl) (Open_nil 20 w185) ?_
        rintro _ w194 ⟨rfl, hF193⟩
        refine ⟨_, rfl, ?_⟩
        have hC195 := hC186.call hF193
        have hvs196 := vsAt_fr hvs190 hF193 (by simp)
        refine WL.runs 5 [(16, .iface 35 (.int .i64 9)), (15, .pointer none), (79, .iface 35 (.int .i64 9)), (78, .pointer none), (76, .tuple #[.pointer none, .iface 35 (.int .i64 9)])] (fun _ => by kernel_rfl) ?_
        refine WL.done rfl ?_
        refine QX.then_normal (hK192 _ _ ?_)
        refine WC.seq (fun K197 hK198 => ?_)
        refine WC.region ?_
        refine WL.runs 28 [(8, .bool false), (106, .bool false), (105, undef), (104, undef), (103, undef), (102, .bool false), (101, .bool false), (100, undef), (99, undef), (98, .bool false), (97, .bool false), (96, undef), (95, undef), (94, undef), (93, undef), (92, undef), (91, undef), (90, .bool false), (89, .bool false), (88, undef), (87, undef), (86, undef), (85, undef), (84, .bool false), (83, .bool false), (82, .bool false), (81, .bool true), (80, .nilIface)] (fun _ => by kernel_rfl) ?_
        refine WL.done rfl ?_
        refine QX.then_normal (hK198 _ _ ?_)
        refine WC.ret ?_
        refine (hret _ _ _ rfl ?_).1
        clear hN hret hret' hK198 hK192 hK181 hK179 hK79 hK64 hK61 hK59 hK39 hK36 hK34 hK32 hK30 hK28 hK18 hK13 hK11 hK6 hK4 hK2
        exact absurd (hw_.symm.trans hok189) (by decide)
       ·
        have hC199 := hC74.call hF184
        refine ⟨_, rfl, ?_⟩
        have hf200 := stAt_fr hT75' hF184 (by simp)
        refine WL.runs 5 [(10, .iface 35 (.int .i64 3)), (14, .pointer none), (75, .iface 35 (.int .i64 3)), (74, .pointer none), (71, .tuple #[.pointer none, .iface 35 (.int .i64 3)])] (fun _ => by kernel_rfl) ?_
        refine WL.done rfl ?_
        refine QX.then_normal (hK181 _ _ ?_)
        refine WC.seq (fun K201 hK202 => ?_)
        refine WC.region ?_
        refine WL.call rfl rfl rfl rfl rfl (by kernel_rfl) (Open_nil 20 w185) ?_
        rintro _ w204 ⟨rfl, hF203⟩
        refine ⟨_, rfl, ?_⟩
        have hC205 := hC199.call hF203
        have hf206 := stAt_fr hf200 hF203 (by simp)
        refine WL.runs 5 [(16, .iface 35 (.int .i64 9)), (15, .pointer none), (79, .iface 35 (.int .i64 9)), (78, .pointer none), (76, .tuple #[.pointer none, .iface 35 (.int .i64 9)])] (fun _ => by kernel_rfl) ?_
        refine WL.done rfl ?_
        refine QX.then_normal (hK202 _ _ ?_)
        refine WC.seq (fun K207 hK208 => ?_)
        refine WC.region ?_
        refine WL.runs 28 [(8, .bool true), (106, .bool true), (105, .bool true), (104, .iface 35 (.int .i64 9)), (103, .iface 35 (.int .i64 9)), (102, .bool true), (101, .bool true), (100, .bool true), (99, .pointer none), (98, .bool true), (97, .bool true), (96, .bool true), (95, .bool true), (94, .iface 35 (.int .i64 3)), (93, .iface 35 (.int .i64 3)), (92, .bool false), (91, .bool false), (90, .bool true), (89, .bool true), (88, .bool true), (87, .bool false), (86, .bool false), (85, .pointer none), (84, .bool true), (83, .bool true), (82, .bool false), (81, .bool false), (80, .iface 35 (.int .i64 3))] (fun _ => by kernel_rfl) ?_
        refine WL.done rfl ?_
        refine QX.then_normal (hK208 _ _ ?_)
        refine WC.ret ?_
        refine (hret _ _ _ rfl ?_).1
        clear hN hret hret' hK208 hK202 hK181 hK179 hK79 hK64 hK61 hK59 hK39 hK36 hK34 hK32 hK30 hK28 hK18 hK13 hK11 hK6 hK4 hK2
        exact ⟨rfl, hC205.fr⟩
     ·
      refine WL.runs 9 [(11, .bool false), (61, .bool false), (60, undef), (59, undef), (58, .bool false), (57, .bool false), (56, undef), (55, undef), (54, undef)] (fun _ => by kernel_rfl) ?_
      refine WL.done rfl ?_
      refine QX.then_normal (hK79 _ _ ?_)
      refine WC.seq (fun K209 hK210 => ?_)
      refine WC.region ?_
      refine WL.runs 1 [(62, .bool false)] (fun _ => by kernel_rfl) ?_
      refine WL.done rfl ?_
      refine QX.then_normal (hK210 _ _ ?_)
      refine WC.cond_false rfl ?_
      refine WC.skip ?_
      refine QX.then_normal (hK59 _ _ ?_)
      refine WC.seq (fun K211 hK212 => ?_)
      refine WC.region ?_
      refine WL.runs 1 [(72, .pointer (some ⟨p19, 0, none⟩))] (fun _ => by kernel_rfl) ?_
      have hw_ : openOk (putS (putS [] 1048576 kP pr) 1048576 kV vo) = false := by
       first
       | (rw [open_PV (by omega) (by omega), proOk_eq, votOk_eq]; done)
       | (rw [open_PV (by omega) (by omega), proOk_eq, votOk_eq]; first | rfl | (simp [(show decide (pr.length = 16) = true from decide_eq_true (by omega)), t80b]; done) | (simp_all; done))
      refine WL.call rfl rfl rfl rfl rfl (by kernel_rfl) (Open_ct F76 p19 (putS (putS [] 1048576 kP pr) 1048576 kV vo) [] 1048576 20 w73 hT75' ⟨by decide, by decide⟩ (by decide)) ?_
      rintro _ w216 (⟨hok220, p213, FV214, rfl, hF215, hvo218, hfv219⟩ | ⟨hok220, rfl, hF215⟩)
      ·
       have hC217 := absorbC hC74 0 rfl hF215 hfv219 (voAt_lt hvo218)
       refine ⟨_, rfl, ?_⟩
       have hvs221 : vsAt w216 (F76 ++ FV214) p213 (openV (putS (putS [] 1048576 kP pr) 1048576 kV vo) 20) p19 (putS (putS [] 1048576 kP pr) 1048576 kV vo) [] 1048576 := ⟨FV214, F76, hvo218, stAt_fr hT75' hF215 (fun _ _ => by simp), (fun x_ h1_ h2_ => absurd (stAt_lt hT75' x_ h2_) (Nat.not_lt.2 (hfv219 x_ h1_))), rfl⟩
       refine WL.runs 5 [(10, .nilIface), (14, .pointer (some ⟨p213, 0, none⟩)), (75, .nilIface), (74, .pointer (some ⟨p213, 0, none⟩)), (71, .tuple #[.pointer (some ⟨p213, 0, none⟩), .nilIface])] (fun _ => by kernel_rfl) ?_
       refine WL.done rfl ?_
       refine QX.then_normal (hK212 _ _ ?_)
       refine WC.seq (fun K222 hK223 => ?_)
       refine WC.region ?_
       refine WL.call rfl rfl rfl rfl rfl (by kernel_rfl) (Open_nil 20 w216) ?_
       rintro _ w225 ⟨rfl, hF224⟩
       refine ⟨_, rfl, ?_⟩
       have hC226 := hC217.call hF224
       have hvs227 := vsAt_fr hvs221 hF224 (by simp)
       refine WL.runs 5 [(16, .iface 35 (.int .i64 9)), (15, .pointer none), (79, .iface 35 (.int .i64 9)), (78, .pointer none), (76, .tuple #[.pointer none, .iface 35 (.int .i64 9)])] (fun _ => by kernel_rfl) ?_
       refine WL.done rfl ?_
       refine QX.then_normal (hK223 _ _ ?_)
       refine WC.seq (fun K228 hK229 => ?_)
       refine WC.region ?_
       refine WL.runs 28 [(8, .bool false), (106, .bool false), (105, undef), (104, undef), (103, undef), (102, .bool false), (101, .bool false), (100, undef), (99, undef), (98, .bool false), (97, .bool false), (96, undef), (95, undef), (94, undef), (93, undef), (92, undef), (91, undef), (90, .bool false), (89, .bool false), (88, undef), (87, undef), (86, undef), (85, undef), (84, .bool false), (83, .bool false), (82, .bool false), (81, .bool true), (80, .nilIface)] (fun _ => by kernel_rfl) ?_
       refine WL.done rfl ?_
       refine QX.then_normal (hK229 _ _ ?_)
       refine WC.ret ?_
       refine (hret _ _ _ rfl ?_).1
       clear hN hret hret' hK229 hK223 hK212 hK210 hK79 hK64 hK61 hK59 hK39 hK36 hK34 hK32 hK30 hK28 hK18 hK13 hK11 hK6 hK4 hK2
       exact absurd (hw_.symm.trans hok220) (by decide)
      ·
       have hC230 := hC74.call hF215
       refine ⟨_, rfl, ?_⟩
       have hf231 := stAt_fr hT75' hF215 (by simp)
       refine WL.runs 5 [(10, .iface 35 (.int .i64 3)), (14, .pointer none), (75, .iface 35 (.int .i64 3)), (74, .pointer none), (71, .tuple #[.pointer none, .iface 35 (.int .i64 3)])] (fun _ => by kernel_rfl) ?_
       refine WL.done rfl ?_
       refine QX.then_normal (hK212 _ _ ?_)
       refine WC.seq (fun K232 hK233 => ?_)
       refine WC.region ?_
       refine WL.call rfl rfl rfl rfl rfl (by kernel_rfl) (Open_nil 20 w216) ?_
       rintro _ w235 ⟨rfl, hF234⟩
       refine ⟨_, rfl, ?_⟩
       have hC236 := hC230.call hF234
       have hf237 := stAt_fr hf231 hF234 (by simp)
       refine WL.runs 5 [(16, .iface 35 (.int .i64 9)), (15, .pointer none), (79, .iface 35 (.int .i64 9)), (78, .pointer none), (76, .tuple #[.pointer none, .iface 35 (.int .i64 9)])] (fun _ => by kernel_rfl) ?_
       refine WL.done rfl ?_
       refine QX.then_normal (hK233 _ _ ?_)
       refine WC.seq (fun K238 hK239 => ?_)
       refine WC.region ?_
       refine WL.runs 28 [(8, .bool true), (106, .bool true), (105, .bool true), (104, .iface 35 (.int .i64 9)), (103, .iface 35 (.int .i64 9)), (102, .bool true), (101, .bool true), (100, .bool true), (99, .pointer none), (98, .bool true), (97, .bool true), (96, .bool true), (95, .bool true), (94, .iface 35 (.int .i64 3)), (93, .iface 35 (.int .i64 3)), (92, .bool false), (91, .bool false), (90, .bool true), (89, .bool true), (88, .bool true), (87, .bool false), (86, .bool false), (85, .pointer none), (84, .bool true), (83, .bool true), (82, .bool false), (81, .bool false), (80, .iface 35 (.int .i64 3))] (fun _ => by kernel_rfl) ?_
       refine WL.done rfl ?_
       refine QX.then_normal (hK239 _ _ ?_)
       refine WC.ret ?_
       refine (hret _ _ _ rfl ?_).1
       clear hN hret hret' hK239 hK233 hK212 hK210 hK79 hK64 hK61 hK59 hK39 hK36 hK34 hK32 hK30 hK28 hK18 hK13 hK11 hK6 hK4 hK2
       exact ⟨rfl, hC236.fr⟩
    ·
     refine WC.cond_false rfl ?_
     refine WC.skip ?_
     refine QX.then_normal (hK59 _ _ ?_)
     refine WC.seq (fun K240 hK241 => ?_)
     refine WC.region ?_
     refine WL.runs 1 [(72, .pointer (some ⟨p19, 0, none⟩))] (fun _ => by kernel_rfl) ?_
     have hw_ : openOk (putS [] 1048576 kP pr) = (balOk pr) := by
      first
      | (rw [open_P (by omega), proOk_eq]; done)
      | (rw [open_P (by omega), proOk_eq]; first | rfl | (simp [(show decide (pr.length = 16) = true from decide_eq_true (by omega))]; done) | (simp_all; done))
     refine WL.call rfl rfl rfl rfl rfl (by kernel_rfl) (Open_ct F51 p19 (putS [] 1048576 kP pr) [] 1048576 20 w55 hf57 ⟨by decide, by decide⟩ (by decide)) ?_
     rintro _ w245 (⟨hok249, p242, FV243, rfl, hF244, hvo247, hfv248⟩ | ⟨hok249, rfl, hF244⟩)
     ·
      have hC246 := absorbC hC56 0 rfl hF244 hfv248 (voAt_lt hvo247)
      refine ⟨_, rfl, ?_⟩
      have hvs250 : vsAt w245 (F51 ++ FV243) p242 (openV (putS [] 1048576 kP pr) 20) p19 (putS [] 1048576 kP pr) [] 1048576 := ⟨FV243, F51, hvo247, stAt_fr hf57 hF244 (fun _ _ => by simp), (fun x_ h1_ h2_ => absurd (stAt_lt hf57 x_ h2_) (Nat.not_lt.2 (hfv248 x_ h1_))), rfl⟩
      refine WL.runs 5 [(10, .nilIface), (14, .pointer (some ⟨p242, 0, none⟩)), (75, .nilIface), (74, .pointer (some ⟨p242, 0, none⟩)), (71, .tuple #[.pointer (some ⟨p242, 0, none⟩), .nilIface])] (fun _ => by kernel_rfl) ?_
      refine WL.done rfl ?_
      refine QX.then_normal (hK241 _ _ ?_)
      refine WC.seq (fun K251 hK252 => ?_)
      refine WC.region ?_
      refine WL.call rfl rfl rfl rfl rfl (by kernel_rfl) (Open_nil 20 w245) ?_
      rintro _ w254 ⟨rfl, hF253⟩
      refine ⟨_, rfl, ?_⟩
      have hC255 := hC246.call hF253
      have hvs256 := vsAt_fr hvs250 hF253 (by simp)
      refine WL.runs 5 [(16, .iface 35 (.int .i64 9)), (15, .pointer none), (79, .iface 35 (.int .i64 9)), (78, .pointer none), (76, .tuple #[.pointer none, .iface 35 (.int .i64 9)])] (fun _ => by kernel_rfl) ?_
      refine WL.done rfl ?_
      refine QX.then_normal (hK252 _ _ ?_)
      refine WC.seq (fun K257 hK258 => ?_)
      refine WC.region ?_
      refine WL.runs 5 [(84, .bool (true == (balOk pr))), (83, .bool (true == (balOk pr))), (82, .bool (balOk pr)), (81, .bool true), (80, .nilIface)] (fun _ => by kernel_rfl) ?_
      refine WL.know 84 (.bool (true == (balOk pr))) (.bool true) rfl (congrArg Value.bool (by rw [hw_.symm.trans hok249]; rfl)) ?_
      refine WL.runs 6 [(90, .bool (true == (balOk pr))), (89, .bool (true == (balOk pr))), (88, .bool (true == (balOk pr))), (87, .bool (balOk pr)), (86, .bool true), (85, .pointer (some ⟨p242, 0, none⟩))] (fun _ => by kernel_rfl) ?_
      refine WL.know 90 (.bool (true == (balOk pr))) (.bool true) rfl (congrArg Value.bool (by rw [hw_.symm.trans hok249]; rfl)) ?_
      refine WL.runs 2 [(92, .bool (balOk pr)), (91, .bool (balOk pr))] (fun _ => by kernel_rfl) ?_
      refine WL.test_at 92 (balOk pr) rfl (fun t259b => ?_) (fun t259b => ?_)
      ·
       refine WL.runs 15 [(8, .bool true), (106, .bool true), (105, .bool true), (104, .iface 35 (.int .i64 9)), (103, .iface 35 (.int .i64 9)), (102, .bool true), (101, .bool true), (100, .bool true), (99, .pointer none), (98, .bool true), (97, .bool true), (96, .bool true), (95, undef), (94, undef), (93, undef)] (fun _ => by kernel_rfl) ?_
       refine WL.done rfl ?_
       refine QX.then_normal (hK258 _ _ ?_)
       refine WC.ret ?_
       refine (hret _ _ _ rfl ?_).1
       clear hN hret hret' hK258 hK252 hK241 hK61 hK59 hK39 hK36 hK34 hK32 hK30 hK28 hK18 hK13 hK11 hK6 hK4 hK2
       exact ⟨rfl, hC255.fr⟩
      ·
       refine WL.runs 15 [(8, .bool false), (106, .bool false), (105, undef), (104, undef), (103, undef), (102, .bool false), (101, .bool false), (100, undef), (99, undef), (98, .bool false), (97, .bool false), (96, .bool false), (95, .bool false), (94, .iface 35 (.int .i64 3)), (93, .nilIface)] (fun _ => by kernel_rfl) ?_
       refine WL.done rfl ?_
       refine QX.then_normal (hK258 _ _ ?_)
       refine WC.ret ?_
       refine (hret _ _ _ rfl ?_).1
       clear hN hret hret' hK258 hK252 hK241 hK61 hK59 hK39 hK36 hK34 hK32 hK30 hK28 hK18 hK13 hK11 hK6 hK4 hK2
       have hz_ := hw_.symm.trans hok249
       exact ⟨congrArg (fun b_ => Ending.returned (Value.bool b_)) (show (false : Bool) = true from by first | (rw [hz_]; rfl) | simp_all), hC255.fr⟩
     ·
      have hC260 := hC56.call hF244
      refine ⟨_, rfl, ?_⟩
      have hf261 := stAt_fr hf57 hF244 (by simp)
      refine WL.runs 5 [(10, .iface 35 (.int .i64 3)), (14, .pointer none), (75, .iface 35 (.int .i64 3)), (74, .pointer none), (71, .tuple #[.pointer none, .iface 35 (.int .i64 3)])] (fun _ => by kernel_rfl) ?_
      refine WL.done rfl ?_
      refine QX.then_normal (hK241 _ _ ?_)
      refine WC.seq (fun K262 hK263 => ?_)
      refine WC.region ?_
      refine WL.call rfl rfl rfl rfl rfl (by kernel_rfl) (Open_nil 20 w245) ?_
      rintro _ w265 ⟨rfl, hF264⟩
      refine ⟨_, rfl, ?_⟩
      have hC266 := hC260.call hF264
      have hf267 := stAt_fr hf261 hF264 (by simp)
      refine WL.runs 5 [(16, .iface 35 (.int .i64 9)), (15, .pointer none), (79, .iface 35 (.int .i64 9)), (78, .pointer none), (76, .tuple #[.pointer none, .iface 35 (.int .i64 9)])] (fun _ => by kernel_rfl) ?_
      refine WL.done rfl ?_
      refine QX.then_normal (hK263 _ _ ?_)
      refine WC.seq (fun K268 hK269 => ?_)
      refine WC.region ?_
      refine WL.runs 5 [(84, .bool (false == (balOk pr))), (83, .bool (false == (balOk pr))), (82, .bool (balOk pr)), (81, .bool false), (80, .iface 35 (.int .i64 3))] (fun _ => by kernel_rfl) ?_
      refine WL.know 84 (.bool (false == (balOk pr))) (.bool true) rfl (congrArg Value.bool (by rw [hw_.symm.trans hok249]; rfl)) ?_
      refine WL.runs 6 [(90, .bool (false == (balOk pr))), (89, .bool (false == (balOk pr))), (88, .bool (false == (balOk pr))), (87, .bool (balOk pr)), (86, .bool false), (85, .pointer none)] (fun _ => by kernel_rfl) ?_
      refine WL.know 90 (.bool (false == (balOk pr))) (.bool true) rfl (congrArg Value.bool (by rw [hw_.symm.trans hok249]; rfl)) ?_
      refine WL.runs 2 [(92, .bool (balOk pr)), (91, .bool (balOk pr))] (fun _ => by kernel_rfl) ?_
      refine WL.test_at 92 (balOk pr) rfl (fun t270b => ?_) (fun t270b => ?_)
      ·
       refine WL.runs 15 [(8, .bool true), (106, .bool true), (105, .bool true), (104, .iface 35 (.int .i64 9)), (103, .iface 35 (.int .i64 9)), (102, .bool true), (101, .bool true), (100, .bool true), (99, .pointer none), (98, .bool true), (97, .bool true), (96, .bool true), (95, undef), (94, undef), (93, undef)] (fun _ => by kernel_rfl) ?_
       refine WL.done rfl ?_
       refine QX.then_normal (hK269 _ _ ?_)
       refine WC.ret ?_
       refine (hret _ _ _ rfl ?_).1
       clear hN hret hret' hK269 hK263 hK241 hK61 hK59 hK39 hK36 hK34 hK32 hK30 hK28 hK18 hK13 hK11 hK6 hK4 hK2
       exact ⟨rfl, hC266.fr⟩
      ·
       refine WL.runs 15 [(8, .bool true), (106, .bool true), (105, .bool true), (104, .iface 35 (.int .i64 9)), (103, .iface 35 (.int .i64 9)), (102, .bool true), (101, .bool true), (100, .bool true), (99, .pointer none), (98, .bool true), (97, .bool true), (96, .bool true), (95, .bool true), (94, .iface 35 (.int .i64 3)), (93, .iface 35 (.int .i64 3))] (fun _ => by kernel_rfl) ?_
       refine WL.done rfl ?_
       refine QX.then_normal (hK269 _ _ ?_)
       refine WC.ret ?_
       refine (hret _ _ _ rfl ?_).1
       clear hN hret hret' hK269 hK263 hK241 hK61 hK59 hK39 hK36 hK34 hK32 hK30 hK28 hK18 hK13 hK11 hK6 hK4 hK2
       exact ⟨rfl, hC266.fr⟩
   ·
    have t53 : ¬ ((pr.length : Int) = 16) := by simpa using t53b
    refine WL.runs 4 [(11, .bool false), (46, .bool false), (45, undef), (44, undef)] (fun _ => by kernel_rfl) ?_
    refine WL.done rfl ?_
    refine QX.then_normal (hK34 _ _ ?_)
    refine WC.seq (fun K271 hK272 => ?_)
    refine WC.seq (fun K273 hK274 => ?_)
    refine WC.region ?_
    refine WL.runs 1 [(47, .bool also)] (fun _ => by kernel_rfl) ?_
    refine WL.done rfl ?_
    refine QX.then_normal (hK274 _ _ ?_)
    refine WC.test_at 47 (also) rfl (fun t275b => ?_) (fun t275b => ?_)
    ·
     refine WC.cond_true rfl ?_
     refine WC.seq (fun K276 hK277 => ?_)
     refine WC.region ?_
     refine WL.runs 2 [(49, .slice B vo.length c2), (48, .pointer (some ⟨p19, 0, none⟩))] (fun _ => by kernel_rfl) ?_
     refine WL.newM hC49 (fun b => .slice (some ⟨b, 0, none⟩) 1 1) (.cells #[.slice B vo.length c2] 22) 50 (fun _ => by kernel_rfl) (fun g278 w279 hb282 hF280 hC281 => ?_)
     have hf283 := stAt_fr hT50' hF280 (by simp)
     have hr284 : ∀ r_ ∈ ([(⟨B, vo.length, c2, vo⟩ : BRow)] : List BRow), rowAt w279 r_ := by
      intro r_ hr_; simp only [List.mem_cons, List.not_mem_nil, or_false] at hr_
      rcases hr_ with rfl
      ·
       exact ⟨(Rd.fr hr2 hC281.fr), (by first | rfl | assumption | (simp; done) | (simp; omega)), hbv⟩
     refine WL.call rfl rfl rfl rfl rfl (by kernel_rfl) (Put_any F51 p19 (putS [] 1048576 kP pr) [] 1048576 kV (some ⟨g278, 0, none⟩) 1 [(⟨B, vo.length, c2, vo⟩ : BRow)] vo w279 hf283 (Rd.blk (hC281.get 1 rfl) cellB_len rfl) hr284 (by simp) (cat1 _ _ _ _)) ?_
     rintro _ w286 ⟨F289, rfl, hF285, hT288, hsub290⟩
     have hT288' : stAt w286 F289 p19 (putS (putS [] 1048576 kP pr) 1048576 kV vo) [] 1048576 := hT288
     have hC287 := hC281.callF 0 rfl hF285 hsub290 (stAt_lt hT288')
     refine ⟨_, rfl, ?_⟩
     refine WL.done rfl ?_
     refine QX.then_normal (hK277 _ _ ?_)
     refine WC.seq (fun K291 hK292 => ?_)
     refine WC.region ?_
     refine WL.runs 11 [(11, .bool false), (61, .bool false), (60, undef), (59, undef), (58, .bool false), (57, .bool false), (56, undef), (55, undef), (54, undef), (53, .bool false), (52, .bool false)] (fun _ => by kernel_rfl) ?_
     refine WL.done rfl ?_
     refine QX.then_normal (hK292 _ _ ?_)
     refine WC.seq (fun K293 hK294 => ?_)
     refine WC.region ?_
     refine WL.runs 1 [(62, .bool false)] (fun _ => by kernel_rfl) ?_
     refine WL.done rfl ?_
     refine QX.then_normal (hK294 _ _ ?_)
     refine WC.cond_false rfl ?_
     refine WC.skip ?_
     refine QX.then_normal (hK272 _ _ ?_)
     refine WC.seq (fun K295 hK296 => ?_)
     refine WC.region ?_
     refine WL.runs 1 [(72, .pointer (some ⟨p19, 0, none⟩))] (fun _ => by kernel_rfl) ?_
     have hw_ : openOk (putS (putS [] 1048576 kP pr) 1048576 kV vo) = false := by
      first
      | (rw [open_PV (by omega) (by omega), proOk_eq, votOk_eq]; done)
      | (rw [open_PV (by omega) (by omega), proOk_eq, votOk_eq]; first | rfl | (simp [(show decide (pr.length = 16) = false from decide_eq_false (by omega))]; done) | (simp_all; done))
     refine WL.call rfl rfl rfl rfl rfl (by kernel_rfl) (Open_ct F289 p19 (putS (putS [] 1048576 kP pr) 1048576 kV vo) [] 1048576 20 w286 hT288' ⟨by decide, by decide⟩ (by decide)) ?_
     rintro _ w300 (⟨hok304, p297, FV298, rfl, hF299, hvo302, hfv303⟩ | ⟨hok304, rfl, hF299⟩)
     ·
      have hC301 := absorbC hC287 0 rfl hF299 hfv303 (voAt_lt hvo302)
      refine ⟨_, rfl, ?_⟩
      have hvs305 : vsAt w300 (F289 ++ FV298) p297 (openV (putS (putS [] 1048576 kP pr) 1048576 kV vo) 20) p19 (putS (putS [] 1048576 kP pr) 1048576 kV vo) [] 1048576 := ⟨FV298, F289, hvo302, stAt_fr hT288' hF299 (fun _ _ => by simp), (fun x_ h1_ h2_ => absurd (stAt_lt hT288' x_ h2_) (Nat.not_lt.2 (hfv303 x_ h1_))), rfl⟩
      refine WL.runs 5 [(10, .nilIface), (14, .pointer (some ⟨p297, 0, none⟩)), (75, .nilIface), (74, .pointer (some ⟨p297, 0, none⟩)), (71, .tuple #[.pointer (some ⟨p297, 0, none⟩), .nilIface])] (fun _ => by kernel_rfl) ?_
      refine WL.done rfl ?_
      refine QX.then_normal (hK296 _ _ ?_)
      refine WC.seq (fun K306 hK307 => ?_)
      refine WC.region ?_
      refine WL.call rfl rfl rfl rfl rfl (by kernel_rfl) (Open_nil 20 w300) ?_
      rintro _ w309 ⟨rfl, hF308⟩
      refine ⟨_, rfl, ?_⟩
      have hC310 := hC301.call hF308
      have hvs311 := vsAt_fr hvs305 hF308 (by simp)
      refine WL.runs 5 [(16, .iface 35 (.int .i64 9)), (15, .pointer none), (79, .iface 35 (.int .i64 9)), (78, .pointer none), (76, .tuple #[.pointer none, .iface 35 (.int .i64 9)])] (fun _ => by kernel_rfl) ?_
      refine WL.done rfl ?_
      refine QX.then_normal (hK307 _ _ ?_)
      refine WC.seq (fun K312 hK313 => ?_)
      refine WC.region ?_
      refine WL.runs 28 [(8, .bool false), (106, .bool false), (105, undef), (104, undef), (103, undef), (102, .bool false), (101, .bool false), (100, undef), (99, undef), (98, .bool false), (97, .bool false), (96, undef), (95, undef), (94, undef), (93, undef), (92, undef), (91, undef), (90, .bool false), (89, .bool false), (88, undef), (87, undef), (86, undef), (85, undef), (84, .bool false), (83, .bool false), (82, .bool false), (81, .bool true), (80, .nilIface)] (fun _ => by kernel_rfl) ?_
      refine WL.done rfl ?_
      refine QX.then_normal (hK313 _ _ ?_)
      refine WC.ret ?_
      refine (hret _ _ _ rfl ?_).1
      clear hN hret hret' hK313 hK307 hK296 hK294 hK292 hK277 hK274 hK272 hK39 hK36 hK34 hK32 hK30 hK28 hK18 hK13 hK11 hK6 hK4 hK2
      exact absurd (hw_.symm.trans hok304) (by decide)
     ·
      have hC314 := hC287.call hF299
      refine ⟨_, rfl, ?_⟩
      have hf315 := stAt_fr hT288' hF299 (by simp)
      refine WL.runs 5 [(10, .iface 35 (.int .i64 3)), (14, .pointer none), (75, .iface 35 (.int .i64 3)), (74, .pointer none), (71, .tuple #[.pointer none, .iface 35 (.int .i64 3)])] (fun _ => by kernel_rfl) ?_
      refine WL.done rfl ?_
      refine QX.then_normal (hK296 _ _ ?_)
      refine WC.seq (fun K316 hK317 => ?_)
      refine WC.region ?_
      refine WL.call rfl rfl rfl rfl rfl (by kernel_rfl) (Open_nil 20 w300) ?_
      rintro _ w319 ⟨rfl, hF318⟩
      refine ⟨_, rfl, ?_⟩
      have hC320 := hC314.call hF318
      have hf321 := stAt_fr hf315 hF318 (by simp)
      refine WL.runs 5 [(16, .iface 35 (.int .i64 9)), (15, .pointer none), (79, .iface 35 (.int .i64 9)), (78, .pointer none), (76, .tuple #[.pointer none, .iface 35 (.int .i64 9)])] (fun _ => by kernel_rfl) ?_
      refine WL.done rfl ?_
      refine QX.then_normal (hK317 _ _ ?_)
      refine WC.seq (fun K322 hK323 => ?_)
      refine WC.region ?_
      refine WL.runs 28 [(8, .bool true), (106, .bool true), (105, .bool true), (104, .iface 35 (.int .i64 9)), (103, .iface 35 (.int .i64 9)), (102, .bool true), (101, .bool true), (100, .bool true), (99, .pointer none), (98, .bool true), (97, .bool true), (96, .bool true), (95, .bool true), (94, .iface 35 (.int .i64 3)), (93, .iface 35 (.int .i64 3)), (92, .bool false), (91, .bool false), (90, .bool true), (89, .bool true), (88, .bool true), (87, .bool false), (86, .bool false), (85, .pointer none), (84, .bool true), (83, .bool true), (82, .bool false), (81, .bool false), (80, .iface 35 (.int .i64 3))] (fun _ => by kernel_rfl) ?_
      refine WL.done rfl ?_
      refine QX.then_normal (hK323 _ _ ?_)
      refine WC.ret ?_
      refine (hret _ _ _ rfl ?_).1
      clear hN hret hret' hK323 hK317 hK296 hK294 hK292 hK277 hK274 hK272 hK39 hK36 hK34 hK32 hK30 hK28 hK18 hK13 hK11 hK6 hK4 hK2
      exact ⟨rfl, hC320.fr⟩
    ·
     refine WC.cond_false rfl ?_
     refine WC.skip ?_
     refine QX.then_normal (hK272 _ _ ?_)
     refine WC.seq (fun K324 hK325 => ?_)
     refine WC.region ?_
     refine WL.runs 1 [(72, .pointer (some ⟨p19, 0, none⟩))] (fun _ => by kernel_rfl) ?_
     have hw_ : openOk (putS [] 1048576 kP pr) = false := by
      first
      | (rw [open_P (by omega), proOk_eq]; done)
      | (rw [open_P (by omega), proOk_eq]; first | rfl | (simp [(show decide (pr.length = 16) = false from decide_eq_false (by omega))]; done) | (simp_all; done))
     refine WL.call rfl rfl rfl rfl rfl (by kernel_rfl) (Open_ct F51 p19 (putS [] 1048576 kP pr) [] 1048576 20 w48 hT50' ⟨by decide, by decide⟩ (by decide)) ?_
     rintro _ w329 (⟨hok333, p326, FV327, rfl, hF328, hvo331, hfv332⟩ | ⟨hok333, rfl, hF328⟩)
     ·
      have hC330 := absorbC hC49 0 rfl hF328 hfv332 (voAt_lt hvo331)
      refine ⟨_, rfl, ?_⟩
      have hvs334 : vsAt w329 (F51 ++ FV327) p326 (openV (putS [] 1048576 kP pr) 20) p19 (putS [] 1048576 kP pr) [] 1048576 := ⟨FV327, F51, hvo331, stAt_fr hT50' hF328 (fun _ _ => by simp), (fun x_ h1_ h2_ => absurd (stAt_lt hT50' x_ h2_) (Nat.not_lt.2 (hfv332 x_ h1_))), rfl⟩
      refine WL.runs 5 [(10, .nilIface), (14, .pointer (some ⟨p326, 0, none⟩)), (75, .nilIface), (74, .pointer (some ⟨p326, 0, none⟩)), (71, .tuple #[.pointer (some ⟨p326, 0, none⟩), .nilIface])] (fun _ => by kernel_rfl) ?_
      refine WL.done rfl ?_
      refine QX.then_normal (hK325 _ _ ?_)
      refine WC.seq (fun K335 hK336 => ?_)
      refine WC.region ?_
      refine WL.call rfl rfl rfl rfl rfl (by kernel_rfl) (Open_nil 20 w329) ?_
      rintro _ w338 ⟨rfl, hF337⟩
      refine ⟨_, rfl, ?_⟩
      have hC339 := hC330.call hF337
      have hvs340 := vsAt_fr hvs334 hF337 (by simp)
      refine WL.runs 5 [(16, .iface 35 (.int .i64 9)), (15, .pointer none), (79, .iface 35 (.int .i64 9)), (78, .pointer none), (76, .tuple #[.pointer none, .iface 35 (.int .i64 9)])] (fun _ => by kernel_rfl) ?_
      refine WL.done rfl ?_
      refine QX.then_normal (hK336 _ _ ?_)
      refine WC.seq (fun K341 hK342 => ?_)
      refine WC.region ?_
      refine WL.runs 28 [(8, .bool false), (106, .bool false), (105, undef), (104, undef), (103, undef), (102, .bool false), (101, .bool false), (100, undef), (99, undef), (98, .bool false), (97, .bool false), (96, undef), (95, undef), (94, undef), (93, undef), (92, undef), (91, undef), (90, .bool false), (89, .bool false), (88, undef), (87, undef), (86, undef), (85, undef), (84, .bool false), (83, .bool false), (82, .bool false), (81, .bool true), (80, .nilIface)] (fun _ => by kernel_rfl) ?_
      refine WL.done rfl ?_
      refine QX.then_normal (hK342 _ _ ?_)
      refine WC.ret ?_
      refine (hret _ _ _ rfl ?_).1
      clear hN hret hret' hK342 hK336 hK325 hK274 hK272 hK39 hK36 hK34 hK32 hK30 hK28 hK18 hK13 hK11 hK6 hK4 hK2
      exact absurd (hw_.symm.trans hok333) (by decide)
     ·
      have hC343 := hC49.call hF328
      refine ⟨_, rfl, ?_⟩
      have hf344 := stAt_fr hT50' hF328 (by simp)
      refine WL.runs 5 [(10, .iface 35 (.int .i64 3)), (14, .pointer none), (75, .iface 35 (.int .i64 3)), (74, .pointer none), (71, .tuple #[.pointer none, .iface 35 (.int .i64 3)])] (fun _ => by kernel_rfl) ?_
      refine WL.done rfl ?_
      refine QX.then_normal (hK325 _ _ ?_)
      refine WC.seq (fun K345 hK346 => ?_)
      refine WC.region ?_
      refine WL.call rfl rfl rfl rfl rfl (by kernel_rfl) (Open_nil 20 w329) ?_
      rintro _ w348 ⟨rfl, hF347⟩
      refine ⟨_, rfl, ?_⟩
      have hC349 := hC343.call hF347
      have hf350 := stAt_fr hf344 hF347 (by simp)
      refine WL.runs 5 [(16, .iface 35 (.int .i64 9)), (15, .pointer none), (79, .iface 35 (.int .i64 9)), (78, .pointer none), (76, .tuple #[.pointer none, .iface 35 (.int .i64 9)])] (fun _ => by kernel_rfl) ?_
      refine WL.done rfl ?_
      refine QX.then_normal (hK346 _ _ ?_)
      refine WC.seq (fun K351 hK352 => ?_)
      refine WC.region ?_
      refine WL.runs 28 [(8, .bool true), (106, .bool true), (105, .bool true), (104, .iface 35 (.int .i64 9)), (103, .iface 35 (.int .i64 9)), (102, .bool true), (101, .bool true), (100, .bool true), (99, .pointer none), (98, .bool true), (97, .bool true), (96, .bool true), (95, .bool true), (94, .iface 35 (.int .i64 3)), (93, .iface 35 (.int .i64 3)), (92, .bool false), (91, .bool false), (90, .bool true), (89, .bool true), (88, .bool true), (87, .bool false), (86, .bool false), (85, .pointer none), (84, .bool true), (83, .bool true), (82, .bool false), (81, .bool false), (80, .iface 35 (.int .i64 3))] (fun _ => by kernel_rfl) ?_
      refine WL.done rfl ?_
      refine QX.then_normal (hK352 _ _ ?_)
      refine WC.ret ?_
      refine (hret _ _ _ rfl ?_).1
      clear hN hret hret' hK352 hK346 hK325 hK274 hK272 hK39 hK36 hK34 hK32 hK30 hK28 hK18 hK13 hK11 hK6 hK4 hK2
      exact ⟨rfl, hC349.fr⟩
  ·
   refine WC.cond_false rfl ?_
   refine WC.skip ?_
   refine QX.then_normal (hK34 _ _ ?_)
   refine WC.seq (fun K353 hK354 => ?_)
   refine WC.seq (fun K355 hK356 => ?_)
   refine WC.region ?_
   refine WL.runs 1 [(47, .bool also)] (fun _ => by kernel_rfl) ?_
   refine WL.done rfl ?_
   refine QX.then_normal (hK356 _ _ ?_)
   refine WC.test_at 47 (also) rfl (fun t357b => ?_) (fun t357b => ?_)
   ·
    refine WC.cond_true rfl ?_
    refine WC.seq (fun K358 hK359 => ?_)
    refine WC.region ?_
    refine WL.runs 2 [(49, .slice B vo.length c2), (48, .pointer (some ⟨p19, 0, none⟩))] (fun _ => by kernel_rfl) ?_
    refine WL.newM hC23 (fun b => .slice (some ⟨b, 0, none⟩) 1 1) (.cells #[.slice B vo.length c2] 22) 50 (fun _ => by kernel_rfl) (fun g360 w361 hb364 hF362 hC363 => ?_)
    have hf365 := stAt_fr hT24 hF362 (by simp)
    have hr366 : ∀ r_ ∈ ([(⟨B, vo.length, c2, vo⟩ : BRow)] : List BRow), rowAt w361 r_ := by
     intro r_ hr_; simp only [List.mem_cons, List.not_mem_nil, or_false] at hr_
     rcases hr_ with rfl
     ·
      exact ⟨(Rd.fr hr2 hC363.fr), (by first | rfl | assumption | (simp; done) | (simp; omega)), hbv⟩
    refine WL.call rfl rfl rfl rfl rfl (by kernel_rfl) (Put_any F20 p19 [] [] 1048576 kV (some ⟨g360, 0, none⟩) 1 [(⟨B, vo.length, c2, vo⟩ : BRow)] vo w361 hf365 (Rd.blk (hC363.get 0 rfl) cellB_len rfl) hr366 (by simp) (cat1 _ _ _ _)) ?_
    rintro _ w368 ⟨F371, rfl, hF367, hT370, hsub372⟩
    have hT370' : stAt w368 F371 p19 (putS [] 1048576 kV vo) [] 1048576 := hT370
    have hC369 := hC363.callF 0 rfl hF367 hsub372 (stAt_lt hT370')
    refine ⟨_, rfl, ?_⟩
    refine WL.done rfl ?_
    refine QX.then_normal (hK359 _ _ ?_)
    refine WC.seq (fun K373 hK374 => ?_)
    refine WC.region ?_
    refine WL.runs 7 [(58, .bool (decide ((vo.length : Int) ≥ 16))), (57, .bool (decide ((vo.length : Int) ≥ 16))), (56, .bool (decide ((vo.length : Int) ≥ 16))), (55, .int .i64 (vo.length : Int)), (54, .slice B vo.length c2), (53, .bool true), (52, .bool true)] (fun _ => by kernel_rfl) ?_
    refine WL.test_at 58 (decide ((vo.length : Int) ≥ 16)) rfl (fun t375b => ?_) (fun t375b => ?_)
    ·
     have t375 : (16 : Int) ≤ (vo.length : Int) := by have q_ := of_decide_eq_true t375b; omega
     refine WL.runs 1 [(59, .slice B vo.length c2)] (fun _ => by kernel_rfl) ?_
     refine WL.call rfl rfl rfl rfl rfl (by kernel_rfl) (good_ct B c2 vo w368 (Rd.fr hr2 hC369.fr) hbv (by omega)) ?_
     rintro _ w377 ⟨rfl, hF376⟩
     refine ⟨_, rfl, ?_⟩
     have hC378 := hC369.call hF376
     have hf379 := stAt_fr hT370' hF376 (by simp)
     refine WL.runs 2 [(11, .bool (balOk vo)), (61, .bool (balOk vo))] (fun _ => by kernel_rfl) ?_
     refine WL.done rfl ?_
     refine QX.then_normal (hK374 _ _ ?_)
     refine WC.seq (fun K380 hK381 => ?_)
     refine WC.region ?_
     refine WL.runs 1 [(62, .bool (balOk vo))] (fun _ => by kernel_rfl) ?_
     refine WL.done rfl ?_
     refine QX.then_normal (hK381 _ _ ?_)
     refine WC.test_at 62 (balOk vo) rfl (fun t382b => ?_) (fun t382b => ?_)
     ·
      refine WC.cond_true rfl ?_
      refine WC.seq (fun K383 hK384 => ?_)
      refine WC.region ?_
      refine WL.runs 1 [(64, .slice B vo.length c2)] (fun _ => by kernel_rfl) ?_
      obtain ⟨A385, hA386⟩ : ∃ A_, slcAt B 16 c2 1 = A_ := ⟨_, rfl⟩
      have hb387 : vo.length ≤ c2 := by omega
      refine WL.slc 22 5 1 B A385 vo.length c2 16 vo.length (vo.length - 16) (c2 - 16) (some (.int .i64 16)) none 65 (by kernel_rfl) (by kernel_rfl) (bnd.yes (by omega)) bnd.no (by omega) hb387 hA386 (by first | rfl | omega) (by first | rfl | omega) ?_
      have hrd388 := Rd.slc hr2 16 vo.length c2 hb387 hA386
      refine WL.call rfl rfl rfl rfl rfl (by kernel_rfl) (RRead_n A385 (vo.length - 16) (c2 - 16) ((vo.take vo.length).drop 16) w377 (Rd.fr hrd388 hC378.fr) (by simp) (fun x_ hx_ => hbv x_ (List.mem_of_mem_take (List.mem_of_mem_drop hx_))) (by omega)) ?_
      rintro _ w394 ⟨A389, c390, L391, R392, rfl, hF393, ho395, hli396, hvv397, hRg398, hdd399⟩
      have hC400 := callNN hC378 hF393 (own_ge ho395) (own_lt ho395) (fun x_ h_ => (hRg398 x_ h_).1) (fun x_ h_ => (hRg398 x_ h_).2) hdd399
      have ho401 := own_base (b' := 0) ho395 (fun _ _ => Nat.zero_le _)
      refine ⟨_, rfl, ?_⟩
      have hf402 := stAt_fr hf379 hF393 (by simp)
      refine WL.runs 5 [(13, .int .i64 (if readOk ((vo.take vo.length).drop 16) then (0 : Int) else 3)), (12, .slice A389 L391.length c390), (68, .int .i64 (if readOk ((vo.take vo.length).drop 16) then (0 : Int) else 3)), (67, .slice A389 L391.length c390), (63, .tuple #[.slice A389 L391.length c390, .int .i64 (if readOk ((vo.take vo.length).drop 16) then (0 : Int) else 3)])] (fun _ => by kernel_rfl) ?_
      refine WL.done rfl ?_
      refine QX.then_normal (hK384 _ _ ?_)
      refine WC.region ?_
      refine WL.runs 2 [(70, .bool ((if readOk ((vo.take vo.length).drop 16) then (0 : Int) else 3) == 0)), (69, .int .i64 (if readOk ((vo.take vo.length).drop 16) then (0 : Int) else 3))] (fun _ => by kernel_rfl) ?_
      refine WL.recast (show (.bool ((if readOk ((vo.take vo.length).drop 16) then (0 : Int) else 3) == 0) : Value) = .bool (readOk (vo.drop 16)) from congrArg Value.bool (by rw [List.take_length]; cases readOk (vo.drop 16) <;> rfl)) ?_
      refine WL.runs 1 [(11, .bool (readOk (vo.drop 16)))] (fun _ => by kernel_rfl) ?_
      refine WL.done rfl ?_
      refine QX.then_normal (hK354 _ _ ?_)
      refine WC.seq (fun K404 hK405 => ?_)
      refine WC.region ?_
      refine WL.runs 1 [(72, .pointer (some ⟨p19, 0, none⟩))] (fun _ => by kernel_rfl) ?_
      have hw_ : openOk (putS [] 1048576 kV vo) = (readOk (vo.drop 16)) := by
       first
       | (rw [open_V (by omega), votOk_eq]; done)
       | (rw [open_V (by omega), votOk_eq]; first | rfl | (simp [(show decide (16 ≤ vo.length) = true from decide_eq_true (by omega)), t382b]; done) | (simp_all; done))
      refine WL.call rfl rfl rfl rfl rfl (by kernel_rfl) (Open_ct F371 p19 (putS [] 1048576 kV vo) [] 1048576 20 w394 hf402 ⟨by decide, by decide⟩ (by decide)) ?_
      rintro _ w409 (⟨hok413, p406, FV407, rfl, hF408, hvo411, hfv412⟩ | ⟨hok413, rfl, hF408⟩)
      ·
       have hC410 := absorbC hC400 0 rfl hF408 hfv412 (voAt_lt hvo411)
       refine ⟨_, rfl, ?_⟩
       have hvs414 : vsAt w409 (F371 ++ FV407) p406 (openV (putS [] 1048576 kV vo) 20) p19 (putS [] 1048576 kV vo) [] 1048576 := ⟨FV407, F371, hvo411, stAt_fr hf402 hF408 (fun _ _ => by simp), (fun x_ h1_ h2_ => absurd (stAt_lt hf402 x_ h2_) (Nat.not_lt.2 (hfv412 x_ h1_))), rfl⟩
       have ho415 := own_fr ho401 hF408 (by simp)
       have hl416 := logIn.fr hli396 hF408 (by simp)
       refine WL.runs 5 [(10, .nilIface), (14, .pointer (some ⟨p406, 0, none⟩)), (75, .nilIface), (74, .pointer (some ⟨p406, 0, none⟩)), (71, .tuple #[.pointer (some ⟨p406, 0, none⟩), .nilIface])] (fun _ => by kernel_rfl) ?_
       refine WL.done rfl ?_
       refine QX.then_normal (hK405 _ _ ?_)
       refine WC.seq (fun K417 hK418 => ?_)
       refine WC.region ?_
       refine WL.call rfl rfl rfl rfl rfl (by kernel_rfl) (Open_nil 20 w409) ?_
       rintro _ w420 ⟨rfl, hF419⟩
       refine ⟨_, rfl, ?_⟩
       have hC421 := hC410.call hF419
       have ho422 := own_fr ho415 hF419 (by simp)
       have hl423 := logIn.fr hl416 hF419 (by simp)
       have hvs424 := vsAt_fr hvs414 hF419 (by simp)
       refine WL.runs 5 [(16, .iface 35 (.int .i64 9)), (15, .pointer none), (79, .iface 35 (.int .i64 9)), (78, .pointer none), (76, .tuple #[.pointer none, .iface 35 (.int .i64 9)])] (fun _ => by kernel_rfl) ?_
       refine WL.done rfl ?_
       refine QX.then_normal (hK418 _ _ ?_)
       refine WC.seq (fun K425 hK426 => ?_)
       refine WC.region ?_
       refine WL.runs 5 [(84, .bool (true == (readOk (vo.drop 16)))), (83, .bool (true == (readOk (vo.drop 16)))), (82, .bool (readOk (vo.drop 16))), (81, .bool true), (80, .nilIface)] (fun _ => by kernel_rfl) ?_
       refine WL.know 84 (.bool (true == (readOk (vo.drop 16)))) (.bool true) rfl (congrArg Value.bool (by rw [hw_.symm.trans hok413]; rfl)) ?_
       refine WL.runs 6 [(90, .bool (true == (readOk (vo.drop 16)))), (89, .bool (true == (readOk (vo.drop 16)))), (88, .bool (true == (readOk (vo.drop 16)))), (87, .bool (readOk (vo.drop 16))), (86, .bool true), (85, .pointer (some ⟨p406, 0, none⟩))] (fun _ => by kernel_rfl) ?_
       refine WL.know 90 (.bool (true == (readOk (vo.drop 16)))) (.bool true) rfl (congrArg Value.bool (by rw [hw_.symm.trans hok413]; rfl)) ?_
       refine WL.runs 2 [(92, .bool (readOk (vo.drop 16))), (91, .bool (readOk (vo.drop 16)))] (fun _ => by kernel_rfl) ?_
       refine WL.test_at 92 (readOk (vo.drop 16)) rfl (fun t427b => ?_) (fun t427b => ?_)
       ·
        refine WL.runs 15 [(8, .bool true), (106, .bool true), (105, .bool true), (104, .iface 35 (.int .i64 9)), (103, .iface 35 (.int .i64 9)), (102, .bool true), (101, .bool true), (100, .bool true), (99, .pointer none), (98, .bool true), (97, .bool true), (96, .bool true), (95, undef), (94, undef), (93, undef)] (fun _ => by kernel_rfl) ?_
        refine WL.done rfl ?_
        refine QX.then_normal (hK426 _ _ ?_)
        refine WC.ret ?_
        refine (hret _ _ _ rfl ?_).1
        clear hN hret hret' hK426 hK418 hK405 hK384 hK381 hK374 hK359 hK356 hK354 hK36 hK34 hK32 hK30 hK28 hK18 hK13 hK11 hK6 hK4 hK2
        exact ⟨rfl, hC421.fr⟩
       ·
        refine WL.runs 15 [(8, .bool false), (106, .bool false), (105, undef), (104, undef), (103, undef), (102, .bool false), (101, .bool false), (100, undef), (99, undef), (98, .bool false), (97, .bool false), (96, .bool false), (95, .bool false), (94, .iface 35 (.int .i64 3)), (93, .nilIface)] (fun _ => by kernel_rfl) ?_
        refine WL.done rfl ?_
        refine QX.then_normal (hK426 _ _ ?_)
        refine WC.ret ?_
        refine (hret _ _ _ rfl ?_).1
        clear hN hret hret' hK426 hK418 hK405 hK384 hK381 hK374 hK359 hK356 hK354 hK36 hK34 hK32 hK30 hK28 hK18 hK13 hK11 hK6 hK4 hK2
        have hz_ := hw_.symm.trans hok413
        exact ⟨congrArg (fun b_ => Ending.returned (Value.bool b_)) (show (false : Bool) = true from by first | (rw [hz_]; rfl) | simp_all), hC421.fr⟩
      ·
       have hC428 := hC400.call hF408
       refine ⟨_, rfl, ?_⟩
       have hf429 := stAt_fr hf402 hF408 (by simp)
       have ho430 := own_fr ho401 hF408 (by simp)
       have hl431 := logIn.fr hli396 hF408 (by simp)
       refine WL.runs 5 [(10, .iface 35 (.int .i64 3)), (14, .pointer none), (75, .iface 35 (.int .i64 3)), (74, .pointer none), (71, .tuple #[.pointer none, .iface 35 (.int .i64 3)])] (fun _ => by kernel_rfl) ?_
       refine WL.done rfl ?_
       refine QX.then_normal (hK405 _ _ ?_)
       refine WC.seq (fun K432 hK433 => ?_)
       refine WC.region ?_
       refine WL.call rfl rfl rfl rfl rfl (by kernel_rfl) (Open_nil 20 w409) ?_
       rintro _ w435 ⟨rfl, hF434⟩
       refine ⟨_, rfl, ?_⟩
       have hC436 := hC428.call hF434
       have hf437 := stAt_fr hf429 hF434 (by simp)
       have ho438 := own_fr ho430 hF434 (by simp)
       have hl439 := logIn.fr hl431 hF434 (by simp)
       refine WL.runs 5 [(16, .iface 35 (.int .i64 9)), (15, .pointer none), (79, .iface 35 (.int .i64 9)), (78, .pointer none), (76, .tuple #[.pointer none, .iface 35 (.int .i64 9)])] (fun _ => by kernel_rfl) ?_
       refine WL.done rfl ?_
       refine QX.then_normal (hK433 _ _ ?_)
       refine WC.seq (fun K440 hK441 => ?_)
       refine WC.region ?_
       refine WL.runs 5 [(84, .bool (false == (readOk (vo.drop 16)))), (83, .bool (false == (readOk (vo.drop 16)))), (82, .bool (readOk (vo.drop 16))), (81, .bool false), (80, .iface 35 (.int .i64 3))] (fun _ => by kernel_rfl) ?_
       refine WL.know 84 (.bool (false == (readOk (vo.drop 16)))) (.bool true) rfl (congrArg Value.bool (by rw [hw_.symm.trans hok413]; rfl)) ?_
       refine WL.runs 6 [(90, .bool (false == (readOk (vo.drop 16)))), (89, .bool (false == (readOk (vo.drop 16)))), (88, .bool (false == (readOk (vo.drop 16)))), (87, .bool (readOk (vo.drop 16))), (86, .bool false), (85, .pointer none)] (fun _ => by kernel_rfl) ?_
       refine WL.know 90 (.bool (false == (readOk (vo.drop 16)))) (.bool true) rfl (congrArg Value.bool (by rw [hw_.symm.trans hok413]; rfl)) ?_
       refine WL.runs 2 [(92, .bool (readOk (vo.drop 16))), (91, .bool (readOk (vo.drop 16)))] (fun _ => by kernel_rfl) ?_
       refine WL.test_at 92 (readOk (vo.drop 16)) rfl (fun t442b => ?_) (fun t442b => ?_)
       ·
        refine WL.runs 15 [(8, .bool true), (106, .bool true), (105, .bool true), (104, .iface 35 (.int .i64 9)), (103, .iface 35 (.int .i64 9)), (102, .bool true), (101, .bool true), (100, .bool true), (99, .pointer none), (98, .bool true), (97, .bool true), (96, .bool true), (95, undef), (94, undef), (93, undef)] (fun _ => by kernel_rfl) ?_
        refine WL.done rfl ?_
        refine QX.then_normal (hK441 _ _ ?_)
        refine WC.ret ?_
        refine (hret _ _ _ rfl ?_).1
        clear hN hret hret' hK441 hK433 hK405 hK384 hK381 hK374 hK359 hK356 hK354 hK36 hK34 hK32 hK30 hK28 hK18 hK13 hK11 hK6 hK4 hK2
        exact ⟨rfl, hC436.fr⟩
       ·
        refine WL.runs 15 [(8, .bool true), (106, .bool true), (105, .bool true), (104, .iface 35 (.int .i64 9)), (103, .iface 35 (.int .i64 9)), (102, .bool true), (101, .bool true), (100, .bool true), (99, .pointer none), (98, .bool true), (97, .bool true), (96, .bool true), (95, .bool true), (94, .iface 35 (.int .i64 3)), (93, .iface 35 (.int .i64 3))] (fun _ => by kernel_rfl) ?_
        refine WL.done rfl ?_
        refine QX.then_normal (hK441 _ _ ?_)
        refine WC.ret ?_
        refine (hret _ _ _ rfl ?_).1
        clear hN hret hret' hK441 hK433 hK405 hK384 hK381 hK374 hK359 hK356 hK354 hK36 hK34 hK32 hK30 hK28 hK18 hK13 hK11 hK6 hK4 hK2
        exact ⟨rfl, hC436.fr⟩
     ·
      refine WC.cond_false rfl ?_
      refine WC.skip ?_
      refine QX.then_normal (hK354 _ _ ?_)
      refine WC.seq (fun K443 hK444 => ?_)
      refine WC.region ?_
      refine WL.runs 1 [(72, .pointer (some ⟨p19, 0, none⟩))] (fun _ => by kernel_rfl) ?_
      have hw_ : openOk (putS [] 1048576 kV vo) = (balOk vo) := by
       first
       | (rw [open_V (by omega), votOk_eq]; done)
       | (rw [open_V (by omega), votOk_eq]; first | rfl | (simp [(show decide (16 ≤ vo.length) = true from decide_eq_true (by omega)), t382b]; done) | (simp_all; done))
      refine WL.call rfl rfl rfl rfl rfl (by kernel_rfl) (Open_ct F371 p19 (putS [] 1048576 kV vo) [] 1048576 20 w377 hf379 ⟨by decide, by decide⟩ (by decide)) ?_
      rintro _ w448 (⟨hok452, p445, FV446, rfl, hF447, hvo450, hfv451⟩ | ⟨hok452, rfl, hF447⟩)
      ·
       have hC449 := absorbC hC378 0 rfl hF447 hfv451 (voAt_lt hvo450)
       refine ⟨_, rfl, ?_⟩
       have hvs453 : vsAt w448 (F371 ++ FV446) p445 (openV (putS [] 1048576 kV vo) 20) p19 (putS [] 1048576 kV vo) [] 1048576 := ⟨FV446, F371, hvo450, stAt_fr hf379 hF447 (fun _ _ => by simp), (fun x_ h1_ h2_ => absurd (stAt_lt hf379 x_ h2_) (Nat.not_lt.2 (hfv451 x_ h1_))), rfl⟩
       refine WL.runs 5 [(10, .nilIface), (14, .pointer (some ⟨p445, 0, none⟩)), (75, .nilIface), (74, .pointer (some ⟨p445, 0, none⟩)), (71, .tuple #[.pointer (some ⟨p445, 0, none⟩), .nilIface])] (fun _ => by kernel_rfl) ?_
       refine WL.done rfl ?_
       refine QX.then_normal (hK444 _ _ ?_)
       refine WC.seq (fun K454 hK455 => ?_)
       refine WC.region ?_
       refine WL.call rfl rfl rfl rfl rfl (by kernel_rfl) (Open_nil 20 w448) ?_
       rintro _ w457 ⟨rfl, hF456⟩
       refine ⟨_, rfl, ?_⟩
       have hC458 := hC449.call hF456
       have hvs459 := vsAt_fr hvs453 hF456 (by simp)
       refine WL.runs 5 [(16, .iface 35 (.int .i64 9)), (15, .pointer none), (79, .iface 35 (.int .i64 9)), (78, .pointer none), (76, .tuple #[.pointer none, .iface 35 (.int .i64 9)])] (fun _ => by kernel_rfl) ?_
       refine WL.done rfl ?_
       refine QX.then_normal (hK455 _ _ ?_)
       refine WC.seq (fun K460 hK461 => ?_)
       refine WC.region ?_
       refine WL.runs 5 [(84, .bool (true == (balOk vo))), (83, .bool (true == (balOk vo))), (82, .bool (balOk vo)), (81, .bool true), (80, .nilIface)] (fun _ => by kernel_rfl) ?_
       refine WL.know 84 (.bool (true == (balOk vo))) (.bool true) rfl (congrArg Value.bool (by rw [hw_.symm.trans hok452]; rfl)) ?_
       refine WL.runs 6 [(90, .bool (true == (balOk vo))), (89, .bool (true == (balOk vo))), (88, .bool (true == (balOk vo))), (87, .bool (balOk vo)), (86, .bool true), (85, .pointer (some ⟨p445, 0, none⟩))] (fun _ => by kernel_rfl) ?_
       refine WL.know 90 (.bool (true == (balOk vo))) (.bool true) rfl (congrArg Value.bool (by rw [hw_.symm.trans hok452]; rfl)) ?_
       refine WL.runs 2 [(92, .bool (balOk vo)), (91, .bool (balOk vo))] (fun _ => by kernel_rfl) ?_
       refine WL.know 92 (.bool (balOk vo)) (.bool false) rfl (congrArg Value.bool (by exact t382b)) ?_
       refine WL.runs 15 [(8, .bool false), (106, .bool false), (105, undef), (104, undef), (103, undef), (102, .bool false), (101, .bool false), (100, undef), (99, undef), (98, .bool false), (97, .bool false), (96, .bool false), (95, .bool false), (94, .iface 35 (.int .i64 3)), (93, .nilIface)] (fun _ => by kernel_rfl) ?_
       refine WL.done rfl ?_
       refine QX.then_normal (hK461 _ _ ?_)
       refine WC.ret ?_
       refine (hret _ _ _ rfl ?_).1
       clear hN hret hret' hK461 hK455 hK444 hK381 hK374 hK359 hK356 hK354 hK36 hK34 hK32 hK30 hK28 hK18 hK13 hK11 hK6 hK4 hK2
       have hz_ := hw_.symm.trans hok452
       exact ⟨congrArg (fun b_ => Ending.returned (Value.bool b_)) (show (false : Bool) = true from by first | (rw [hz_]; rfl) | simp_all), hC458.fr⟩
      ·
       have hC462 := hC378.call hF447
       refine ⟨_, rfl, ?_⟩
       have hf463 := stAt_fr hf379 hF447 (by simp)
       refine WL.runs 5 [(10, .iface 35 (.int .i64 3)), (14, .pointer none), (75, .iface 35 (.int .i64 3)), (74, .pointer none), (71, .tuple #[.pointer none, .iface 35 (.int .i64 3)])] (fun _ => by kernel_rfl) ?_
       refine WL.done rfl ?_
       refine QX.then_normal (hK444 _ _ ?_)
       refine WC.seq (fun K464 hK465 => ?_)
       refine WC.region ?_
       refine WL.call rfl rfl rfl rfl rfl (by kernel_rfl) (Open_nil 20 w448) ?_
       rintro _ w467 ⟨rfl, hF466⟩
       refine ⟨_, rfl, ?_⟩
       have hC468 := hC462.call hF466
       have hf469 := stAt_fr hf463 hF466 (by simp)
       refine WL.runs 5 [(16, .iface 35 (.int .i64 9)), (15, .pointer none), (79, .iface 35 (.int .i64 9)), (78, .pointer none), (76, .tuple #[.pointer none, .iface 35 (.int .i64 9)])] (fun _ => by kernel_rfl) ?_
       refine WL.done rfl ?_
       refine QX.then_normal (hK465 _ _ ?_)
       refine WC.seq (fun K470 hK471 => ?_)
       refine WC.region ?_
       refine WL.runs 5 [(84, .bool (false == (balOk vo))), (83, .bool (false == (balOk vo))), (82, .bool (balOk vo)), (81, .bool false), (80, .iface 35 (.int .i64 3))] (fun _ => by kernel_rfl) ?_
       refine WL.know 84 (.bool (false == (balOk vo))) (.bool true) rfl (congrArg Value.bool (by rw [hw_.symm.trans hok452]; rfl)) ?_
       refine WL.runs 6 [(90, .bool (false == (balOk vo))), (89, .bool (false == (balOk vo))), (88, .bool (false == (balOk vo))), (87, .bool (balOk vo)), (86, .bool false), (85, .pointer none)] (fun _ => by kernel_rfl) ?_
       refine WL.know 90 (.bool (false == (balOk vo))) (.bool true) rfl (congrArg Value.bool (by rw [hw_.symm.trans hok452]; rfl)) ?_
       refine WL.runs 2 [(92, .bool (balOk vo)), (91, .bool (balOk vo))] (fun _ => by kernel_rfl) ?_
       refine WL.know 92 (.bool (balOk vo)) (.bool false) rfl (congrArg Value.bool (by exact t382b)) ?_
       refine WL.runs 15 [(8, .bool true), (106, .bool true), (105, .bool true), (104, .iface 35 (.int .i64 9)), (103, .iface 35 (.int .i64 9)), (102, .bool true), (101, .bool true), (100, .bool true), (99, .pointer none), (98, .bool true), (97, .bool true), (96, .bool true), (95, .bool true), (94, .iface 35 (.int .i64 3)), (93, .iface 35 (.int .i64 3))] (fun _ => by kernel_rfl) ?_
       refine WL.done rfl ?_
       refine QX.then_normal (hK471 _ _ ?_)
       refine WC.ret ?_
       refine (hret _ _ _ rfl ?_).1
       clear hN hret hret' hK471 hK465 hK444 hK381 hK374 hK359 hK356 hK354 hK36 hK34 hK32 hK30 hK28 hK18 hK13 hK11 hK6 hK4 hK2
       exact ⟨rfl, hC468.fr⟩
    ·
     have t375 : (vo.length : Int) < 16 := by have q_ := of_decide_eq_false t375b; omega
     refine WL.runs 4 [(11, .bool false), (61, .bool false), (60, undef), (59, undef)] (fun _ => by kernel_rfl) ?_
     refine WL.done rfl ?_
     refine QX.then_normal (hK374 _ _ ?_)
     refine WC.seq (fun K472 hK473 => ?_)
     refine WC.region ?_
     refine WL.runs 1 [(62, .bool false)] (fun _ => by kernel_rfl) ?_
     refine WL.done rfl ?_
     refine QX.then_normal (hK473 _ _ ?_)
     refine WC.cond_false rfl ?_
     refine WC.skip ?_
     refine QX.then_normal (hK354 _ _ ?_)
     refine WC.seq (fun K474 hK475 => ?_)
     refine WC.region ?_
     refine WL.runs 1 [(72, .pointer (some ⟨p19, 0, none⟩))] (fun _ => by kernel_rfl) ?_
     have hw_ : openOk (putS [] 1048576 kV vo) = false := by
      first
      | (rw [open_V (by omega), votOk_eq]; done)
      | (rw [open_V (by omega), votOk_eq]; first | rfl | (simp [(show decide (16 ≤ vo.length) = false from decide_eq_false (by omega))]; done) | (simp_all; done))
     refine WL.call rfl rfl rfl rfl rfl (by kernel_rfl) (Open_ct F371 p19 (putS [] 1048576 kV vo) [] 1048576 20 w368 hT370' ⟨by decide, by decide⟩ (by decide)) ?_
     rintro _ w479 (⟨hok483, p476, FV477, rfl, hF478, hvo481, hfv482⟩ | ⟨hok483, rfl, hF478⟩)
     ·
      have hC480 := absorbC hC369 0 rfl hF478 hfv482 (voAt_lt hvo481)
      refine ⟨_, rfl, ?_⟩
      have hvs484 : vsAt w479 (F371 ++ FV477) p476 (openV (putS [] 1048576 kV vo) 20) p19 (putS [] 1048576 kV vo) [] 1048576 := ⟨FV477, F371, hvo481, stAt_fr hT370' hF478 (fun _ _ => by simp), (fun x_ h1_ h2_ => absurd (stAt_lt hT370' x_ h2_) (Nat.not_lt.2 (hfv482 x_ h1_))), rfl⟩
      refine WL.runs 5 [(10, .nilIface), (14, .pointer (some ⟨p476, 0, none⟩)), (75, .nilIface), (74, .pointer (some ⟨p476, 0, none⟩)), (71, .tuple #[.pointer (some ⟨p476, 0, none⟩), .nilIface])] (fun _ => by kernel_rfl) ?_
      refine WL.done rfl ?_
      refine QX.then_normal (hK475 _ _ ?_)
      refine WC.seq (fun K485 hK486 => ?_)
      refine WC.region ?_
      refine WL.call rfl rfl rfl rfl rfl (by kernel_rfl) (Open_nil 20 w479) ?_
      rintro _ w488 ⟨rfl, hF487⟩
      refine ⟨_, rfl, ?_⟩
      have hC489 := hC480.call hF487
      have hvs490 := vsAt_fr hvs484 hF487 (by simp)
      refine WL.runs 5 [(16, .iface 35 (.int .i64 9)), (15, .pointer none), (79, .iface 35 (.int .i64 9)), (78, .pointer none), (76, .tuple #[.pointer none, .iface 35 (.int .i64 9)])] (fun _ => by kernel_rfl) ?_
      refine WL.done rfl ?_
      refine QX.then_normal (hK486 _ _ ?_)
      refine WC.seq (fun K491 hK492 => ?_)
      refine WC.region ?_
      refine WL.runs 28 [(8, .bool false), (106, .bool false), (105, undef), (104, undef), (103, undef), (102, .bool false), (101, .bool false), (100, undef), (99, undef), (98, .bool false), (97, .bool false), (96, undef), (95, undef), (94, undef), (93, undef), (92, undef), (91, undef), (90, .bool false), (89, .bool false), (88, undef), (87, undef), (86, undef), (85, undef), (84, .bool false), (83, .bool false), (82, .bool false), (81, .bool true), (80, .nilIface)] (fun _ => by kernel_rfl) ?_
      refine WL.done rfl ?_
      refine QX.then_normal (hK492 _ _ ?_)
      refine WC.ret ?_
      refine (hret _ _ _ rfl ?_).1
      clear hN hret hret' hK492 hK486 hK475 hK473 hK374 hK359 hK356 hK354 hK36 hK34 hK32 hK30 hK28 hK18 hK13 hK11 hK6 hK4 hK2
      exact absurd (hw_.symm.trans hok483) (by decide)
     ·
      have hC493 := hC369.call hF478
      refine ⟨_, rfl, ?_⟩
      have hf494 := stAt_fr hT370' hF478 (by simp)
      refine WL.runs 5 [(10, .iface 35 (.int .i64 3)), (14, .pointer none), (75, .iface 35 (.int .i64 3)), (74, .pointer none), (71, .tuple #[.pointer none, .iface 35 (.int .i64 3)])] (fun _ => by kernel_rfl) ?_
      refine WL.done rfl ?_
      refine QX.then_normal (hK475 _ _ ?_)
      refine WC.seq (fun K495 hK496 => ?_)
      refine WC.region ?_
      refine WL.call rfl rfl rfl rfl rfl (by kernel_rfl) (Open_nil 20 w479) ?_
      rintro _ w498 ⟨rfl, hF497⟩
      refine ⟨_, rfl, ?_⟩
      have hC499 := hC493.call hF497
      have hf500 := stAt_fr hf494 hF497 (by simp)
      refine WL.runs 5 [(16, .iface 35 (.int .i64 9)), (15, .pointer none), (79, .iface 35 (.int .i64 9)), (78, .pointer none), (76, .tuple #[.pointer none, .iface 35 (.int .i64 9)])] (fun _ => by kernel_rfl) ?_
      refine WL.done rfl ?_
      refine QX.then_normal (hK496 _ _ ?_)
      refine WC.seq (fun K501 hK502 => ?_)
      refine WC.region ?_
      refine WL.runs 28 [(8, .bool true), (106, .bool true), (105, .bool true), (104, .iface 35 (.int .i64 9)), (103, .iface 35 (.int .i64 9)), (102, .bool true), (101, .bool true), (100, .bool true), (99, .pointer none), (98, .bool true), (97, .bool true), (96, .bool true), (95, .bool true), (94, .iface 35 (.int .i64 3)), (93, .iface 35 (.int .i64 3)), (92, .bool false), (91, .bool false), (90, .bool true), (89, .bool true), (88, .bool true), (87, .bool false), (86, .bool false), (85, .pointer none), (84, .bool true), (83, .bool true), (82, .bool false), (81, .bool false), (80, .iface 35 (.int .i64 3))] (fun _ => by kernel_rfl) ?_
      refine WL.done rfl ?_
      refine QX.then_normal (hK502 _ _ ?_)
      refine WC.ret ?_
      refine (hret _ _ _ rfl ?_).1
      clear hN hret hret' hK502 hK496 hK475 hK473 hK374 hK359 hK356 hK354 hK36 hK34 hK32 hK30 hK28 hK18 hK13 hK11 hK6 hK4 hK2
      exact ⟨rfl, hC499.fr⟩
   ·
    refine WC.cond_false rfl ?_
    refine WC.skip ?_
    refine QX.then_normal (hK354 _ _ ?_)
    refine WC.seq (fun K503 hK504 => ?_)
    refine WC.region ?_
    refine WL.runs 1 [(72, .pointer (some ⟨p19, 0, none⟩))] (fun _ => by kernel_rfl) ?_
    have hw_ : openOk [] = true := by
     first
     | (rw [show openOk ([] : Ct) = true from rfl]; done)
     | (rw [show openOk ([] : Ct) = true from rfl]; first | rfl | (simp []; done) | (simp_all; done))
    refine WL.call rfl rfl rfl rfl rfl (by kernel_rfl) (Open_ct F20 p19 [] [] 1048576 20 w22 hT24 ⟨by decide, by decide⟩ (by decide)) ?_
    rintro _ w508 (⟨hok512, p505, FV506, rfl, hF507, hvo510, hfv511⟩ | ⟨hok512, rfl, hF507⟩)
    ·
     have hC509 := absorbC hC23 0 rfl hF507 hfv511 (voAt_lt hvo510)
     refine ⟨_, rfl, ?_⟩
     have hvs513 : vsAt w508 (F20 ++ FV506) p505 (openV [] 20) p19 [] [] 1048576 := ⟨FV506, F20, hvo510, stAt_fr hT24 hF507 (fun _ _ => by simp), (fun x_ h1_ h2_ => absurd (stAt_lt hT24 x_ h2_) (Nat.not_lt.2 (hfv511 x_ h1_))), rfl⟩
     refine WL.runs 5 [(10, .nilIface), (14, .pointer (some ⟨p505, 0, none⟩)), (75, .nilIface), (74, .pointer (some ⟨p505, 0, none⟩)), (71, .tuple #[.pointer (some ⟨p505, 0, none⟩), .nilIface])] (fun _ => by kernel_rfl) ?_
     refine WL.done rfl ?_
     refine QX.then_normal (hK504 _ _ ?_)
     refine WC.seq (fun K514 hK515 => ?_)
     refine WC.region ?_
     refine WL.call rfl rfl rfl rfl rfl (by kernel_rfl) (Open_nil 20 w508) ?_
     rintro _ w517 ⟨rfl, hF516⟩
     refine ⟨_, rfl, ?_⟩
     have hC518 := hC509.call hF516
     have hvs519 := vsAt_fr hvs513 hF516 (by simp)
     refine WL.runs 5 [(16, .iface 35 (.int .i64 9)), (15, .pointer none), (79, .iface 35 (.int .i64 9)), (78, .pointer none), (76, .tuple #[.pointer none, .iface 35 (.int .i64 9)])] (fun _ => by kernel_rfl) ?_
     refine WL.done rfl ?_
     refine QX.then_normal (hK515 _ _ ?_)
     refine WC.seq (fun K520 hK521 => ?_)
     refine WC.region ?_
     refine WL.runs 28 [(8, .bool true), (106, .bool true), (105, .bool true), (104, .iface 35 (.int .i64 9)), (103, .iface 35 (.int .i64 9)), (102, .bool true), (101, .bool true), (100, .bool true), (99, .pointer none), (98, .bool true), (97, .bool true), (96, .bool true), (95, undef), (94, undef), (93, undef), (92, .bool true), (91, .bool true), (90, .bool true), (89, .bool true), (88, .bool true), (87, .bool true), (86, .bool true), (85, .pointer (some ⟨p505, 0, none⟩)), (84, .bool true), (83, .bool true), (82, .bool true), (81, .bool true), (80, .nilIface)] (fun _ => by kernel_rfl) ?_
     refine WL.done rfl ?_
     refine QX.then_normal (hK521 _ _ ?_)
     refine WC.ret ?_
     refine (hret _ _ _ rfl ?_).1
     clear hN hret hret' hK521 hK515 hK504 hK356 hK354 hK36 hK34 hK32 hK30 hK28 hK18 hK13 hK11 hK6 hK4 hK2
     exact ⟨rfl, hC518.fr⟩
    ·
     exact absurd hok512 (by rw [hw_]; decide)

theorem VoteStores_ct (A B : Option Addr) (c c2 : Nat) (pr vo : List Int) (has also : Bool) (w : World) (hr : Rd w 1 (Go.Tw.encI .u8) A pr) (hr2 : Rd w 1 (Go.Tw.encI .u8) B vo) (hbp : byteL pr) (hbv : byteL vo) (hl1 : pr.length ≤ 1048576) (hl2 : vo.length ≤ 1048576) (hc1 : pr.length ≤ c) (hc2 : vo.length ≤ c2) : Calls Try.prog 4 #[.agg #[.slice A pr.length c, .slice B vo.length c2, .bool has, .bool also]] w fun e w' => e = .returned (.bool true) ∧ Fr w w' [] := by
 refine enterD (n := 12) Try.func4 rfl rfl (Nat.le_of_ble_eq_true rfl) ?_
 intro Q0 hN hret hret'
 have hC := Cx.start w
 refine WC.seq (fun K1 hK2 => ?_)
 refine WC.region ?_
 refine WL.newM hC (fun b => .pointer (some ⟨b, 0, none⟩)) (.cells #[.slice A pr.length c, .slice B vo.length c2, .bool has, .bool also] 40) 1 (fun _ => by kernel_rfl) (fun g3 w4 hb7 hF5 hC6 => ?_)
 refine WL.runs 1 [(2, .bool false)] (fun _ => by kernel_rfl) ?_
 refine WL.done rfl ?_
 refine QX.then_normal (hK2 _ _ ?_)
 refine WC.seq (fun K8 hK9 => ?_)
 refine WC.region ?_
 refine WL.runs 1 [(3, .pointer (some ⟨g3, 0, none⟩))] (fun _ => by kernel_rfl) ?_
 refine WL.load 22 (.pointer (some ⟨g3, 0, none⟩)) (.slice A pr.length c) 4 (by kernel_rfl) (run_ld (hC6.get 0 rfl) rfl) ?_
 refine WL.runs 1 [(5, .pointer (some ⟨g3, 1, none⟩))] (fun _ => by kernel_rfl) ?_
 refine WL.load 22 (.pointer (some ⟨g3, 1, none⟩)) (.slice B vo.length c2) 6 (by kernel_rfl) (run_ld (hC6.get 0 rfl) rfl) ?_
 refine WL.runs 1 [(7, .pointer (some ⟨g3, 2, none⟩))] (fun _ => by kernel_rfl) ?_
 refine WL.load 4 (.pointer (some ⟨g3, 2, none⟩)) (.bool has) 8 (by kernel_rfl) (run_ld (hC6.get 0 rfl) rfl) ?_
 refine WL.runs 1 [(9, .pointer (some ⟨g3, 3, none⟩))] (fun _ => by kernel_rfl) ?_
 refine WL.load 4 (.pointer (some ⟨g3, 3, none⟩)) (.bool also) 10 (by kernel_rfl) (run_ld (hC6.get 0 rfl) rfl) ?_
 refine WL.call rfl rfl rfl rfl rfl (by kernel_rfl) (opens_ct A B c c2 pr vo has also w4 (Rd.fr hr hC6.fr) (Rd.fr hr2 hC6.fr) hbp hbv hl1 hl2 hc1 hc2) ?_
 rintro _ w11 ⟨rfl, hF10⟩
 refine ⟨_, rfl, ?_⟩
 have hC12 := hC6.call hF10
 refine WL.runs 1 [(2, .bool true)] (fun _ => by kernel_rfl) ?_
 refine WL.done rfl ?_
 refine QX.then_normal (hK9 _ _ ?_)
 refine WC.ret ?_
 refine (hret _ _ _ rfl ?_).1
 clear hN hret hret' hK9 hK2
 exact ⟨rfl, hC12.fr⟩

end Go.Proofs.Ytjacpjdikhlcoaa
