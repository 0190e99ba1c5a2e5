/- Contracts of functions of the program, each proved by a walk through its code; conditions stand in the statements. -/
import Derived.Test.YtkhdliobbbmkoaaSbA13
namespace Go.Proofs.Ytkhdliobbbmkoaa
set_option linter.unusedSimpArgs false
set_option linter.unusedVariables false
set_option linter.unusedSectionVars false
open Go Go.RowKit Go.Tw
set_option linter.unusedVariables false
set_option maxRecDepth 20000
theorem CloneB (A : Option Addr) (n c : Nat) (xs : List Int) (w : World) (hn : xs.length = n) (hrd : Rd w 1 (Go.Tw.encI .u8) A xs) (hlim : xs.length ≤ 70000000) : Calls Try.prog 34 #[.slice A n c] w fun e w' => ∃ v, e = .returned v ∧ Fr w w' [] ∧ w'.ownsRow w.heap.size 5 1 v xs.length (xs.flatMap (Go.Tw.encI .u8)) := by
 refine enterD (n := 8) Try.func34 rfl rfl (Nat.le_of_ble_eq_true rfl) ?_
 intro Q0 hN hret hret'
 have hC := Cx.start w
 refine WCs (fun K1 hK2 => ?_)
 refine WCg (WLr 1 [(2, .slice none 0 0)] (fun _ => by kernel_rfl) (WLd rfl (QXn (hK2 _ _ ?_))))
 refine WCs (fun K3 hK4 => ?_)
 refine WCs (fun K5 hK6 => ?_)
 refine WCg (WLr 1 [(3, .slice A n c)] (fun _ => by kernel_rfl) ?_)
 have hr7 : ∀ w_, Sem.run Try.prog (do eqGuard .eql 22 (Operand.tmp 3) (Operand.const (.slice none 0 0)) (.slice A n c) (.slice none 0 0); binOp .eql 22 (.slice A n c) (.slice none 0 0)) w_ = .ok (.bool (Option.isNone A)) w_ := fun w_ => (by cases (A : Option Addr) <;> kernel_rfl)
 refine WL.sem (do eqGuard .eql 22 (Operand.tmp 3) (Operand.const (.slice none 0 0)) (.slice A n c) (.slice none 0 0); binOp .eql 22 (.slice A n c) (.slice none 0 0)) 4 (.bool (Option.isNone A)) (by kernel_rfl) (hr7 _) ?_
 refine WLd rfl (QXn (hK6 _ _ ?_))
 refine WCa 4 (Option.isNone A) rfl (fun t8b => ?_) (fun t8b => ?_)
 ·
  refine WCt rfl ?_
  refine WCs (fun K9 hK10 => ?_)
  refine WCg (WLr 1 [(2, .slice none 0 0)] (fun _ => by kernel_rfl) (WLd rfl (QXn (hK10 _ _ ?_))))
  refine WC.ret ?_
  refine QXr ?_
  refine (hret _ _ _ rfl ?_).1
  clear hN hret hret' hK10 hK6 hK4 hK2
  have hA_ : A = none := by simpa using t8b
  subst hA_
  obtain rfl := Rd.of_none hrd
  exact ⟨_, rfl, hC.fr, own_nil _ _ _ _⟩
 ·
  refine WCf rfl (WC.skip (QXn (hK4 _ _ ?_)))
  refine WCs (fun K11 hK12 => ?_)
  refine WCg ?_
  refine WL.newM hC (fun b => .slice (some ⟨b, 0, none⟩) 0 0) (.cells #[] 5) 5 (fun _ => by kernel_rfl) (fun g13 w14 hb17 hF15 hC16 => ?_)
  refine WLr 1 [(6, .slice A n c)] (fun _ => by kernel_rfl) ?_
  have ho19 : World.ownsRow w14 0 5 1 (.slice (some ⟨g13, 0, none⟩) 0 0) 0 [] := own_of_blk (Nat.zero_le _) (hC16.get 0 rfl) (Nat.le_refl _) (Nat.zero_le _) (by simp) rfl
  have hC18 := hC16.toF 0 rfl
  obtain ⟨v21, w22, hr23, ho24, hF25, hC26, hnil27, hsub28⟩ := app_run Try.prog hC18 0 (v := .slice (some ⟨g13, 0, none⟩) 0 0) rfl 22 22 5 1 1 0 n c A rfl ho19 (xs.flatMap (Go.Tw.encI .u8)) (flat_len_n (Go.Tw.encI_len _) (by first | rfl | assumption | (simp; done) | (simp; omega))) (Rd.src_n (Rd.fr hrd hC18.fr) (Go.Tw.encI_len _) (by decide) (by first | rfl | assumption | (simp; done) | (simp; omega))) (flat_one (Go.Tw.encI_one _) _) (by simp only [maxLen]; omega) (by omega)
  have ho32 := own_app (enc := (Go.Tw.encI .u8)) (ys := []) (zs := xs) ho24
  obtain ⟨A29, c30, rfl, hle31⟩ := own_form ho32
  refine WL.sem (Builtin.append_ #[22, 22] 22 #[.slice (some ⟨g13, 0, none⟩) 0 0, .slice A n c]) 7 (.slice A29 (0 + n) c30) (by kernel_rfl) hr23 ?_
  refine WLr 1 [(2, .slice A29 (0 + n) c30)] (fun _ => by kernel_rfl) (WLd rfl (QXn (hK12 _ _ ?_)))
  refine WC.ret ?_
  refine (hret _ _ _ rfl ?_).1
  clear hN hret hret' hK12 hK6 hK4 hK2
  subst hn
  exact ⟨_, rfl, hC26.fr, by simpa [shut] using own_base ho32 (newF_of hC26 0 rfl (by first | (simp; done) | exact h0_) (by first | (simp; done) | (intro q_ hq_; simp at hq_; omega)))⟩

theorem EqualB (A B : Option Addr) (n c n2 c2 : Nat) (xs ys : List Int) (w : World) (hA : Rd w 1 (Go.Tw.encI .u8) A xs) (hB : Rd w 1 (Go.Tw.encI .u8) B ys) (hn1 : xs.length = n) (hn2 : ys.length = n2) (h1 : byteL xs) (h2 : byteL ys) : Calls Try.prog 43 #[.slice A n c, .slice B n2 c2] w fun e w' => e = .returned (.bool (decide (xs = ys))) ∧ Fr w w' [] := by
 refine enterD (n := 10) Try.func43 rfl rfl (Nat.le_of_ble_eq_true rfl) ?_
 intro Q0 hN hret hret'
 have hC := Cx.start w
 refine WCs (fun K1 hK2 => ?_)
 refine WCg (WLr 1 [(4, .bool false)] (fun _ => by kernel_rfl) (WLd rfl (QXn (hK2 _ _ ?_))))
 refine WCs (fun K3 hK4 => ?_)
 refine WCg (WLr 1 [(5, .slice A n c)] (fun _ => by kernel_rfl) ?_)
 refine WL.sem (convert 22 9 (.slice A n c)) 6 (.string (strOfNums xs)) (by kernel_rfl) (run_bytes_str rfl rfl rfl (Rd.fr hA hC.fr) (by first | rfl | assumption | (simp; done))) ?_
 refine WLr 1 [(7, .slice B n2 c2)] (fun _ => by kernel_rfl) ?_
 refine WL.sem (convert 22 9 (.slice B n2 c2)) 8 (.string (strOfNums ys)) (by kernel_rfl) (run_bytes_str rfl rfl rfl (Rd.fr hB hC.fr) (by first | rfl | assumption | (simp; done))) ?_
 refine WLr 1 [(9, .bool ((strOfNums xs).toList == (strOfNums ys).toList))] (fun _ => by kernel_rfl) ?_
 refine WLt (show (.bool ((strOfNums xs).toList == (strOfNums ys).toList) : Value) = .bool (decide ((strOfNums xs) = (strOfNums ys))) from by rw [str_eql]) ?_
 refine WLr 1 [(4, .bool (decide ((strOfNums xs) = (strOfNums ys))))] (fun _ => by kernel_rfl) (WLd rfl (QXn (hK4 _ _ ?_)))
 refine WC.ret ?_
 refine (hret _ _ _ rfl ?_).1
 exact ⟨by show Ending.returned (.bool _) = _; rw [strOf_dec h1 h2], hC.fr⟩

theorem GrowB (n : Nat) (w : World) (hlim : n ≤ 70000000) : Calls Try.prog 42 #[.slice none 0 0, .int .i64 (n : Int)] w fun e w' => ∃ v, e = .returned v ∧ Fr w w' [] ∧ w'.ownsRow w.heap.size 5 1 v 0 [] := by
 refine enterD (n := 27) Try.func42 rfl rfl (Nat.le_of_ble_eq_true rfl) ?_
 intro Q0 hN hret hret'
 have hC := Cx.start w
 refine WCs (fun K1 hK2 => ?_)
 refine WCg (WLr 1 [(4, .slice none 0 0)] (fun _ => by kernel_rfl) (WLd rfl (QXn (hK2 _ _ ?_))))
 refine WCs (fun K3 hK4 => ?_)
 refine WCs (fun K5 hK6 => ?_)
 refine WCg (WLr 2 [(6, .bool (decide ((n : Int) < 0))), (5, .int .i64 (n : Int))] (fun _ => by kernel_rfl) (WLd rfl (QXn (hK6 _ _ ?_))))
 refine WC.know 6 (.bool (decide ((n : Int) < 0))) (.bool false) rfl (congrArg Value.bool (by simp <;> omega)) ?_
 refine WCf rfl (WC.skip (QXn (hK4 _ _ ?_)))
 refine WCs (fun K7 hK8 => ?_)
 refine WCs (fun K9 hK10 => ?_)
 refine WCg (WLr 6 [(13, .int .i64 (IntKind.i64.wrap (0 - 0))), (12, .int .i64 0), (11, .slice none 0 0), (10, .int .i64 0), (9, .slice none 0 0), (8, .int .i64 (n : Int))] (fun _ => by kernel_rfl) ?_)
 refine WLt (show (.int .i64 (IntKind.i64.wrap (0 - 0)) : Value) = .int .i64 (0 - 0) from by rw [wrap_in_i64 (0 - 0) (by omega) (by omega)]) ?_
 refine WLr 1 [(14, .int .i64 (IntKind.i64.wrap ((n : Int) - (0 - 0))))] (fun _ => by kernel_rfl) ?_
 refine WLt (show (.int .i64 (IntKind.i64.wrap ((n : Int) - (0 - 0))) : Value) = .int .i64 ((n : Int) - (0 - 0)) from by rw [wrap_in_i64 ((n : Int) - (0 - 0)) (by omega) (by omega)]) ?_
 refine WLr 1 [(1, .int .i64 ((n : Int) - (0 - 0)))] (fun _ => by kernel_rfl) (WLd rfl (QXn (hK10 _ _ ?_)))
 refine WCs (fun K11 hK12 => ?_)
 refine WCg (WLr 2 [(16, .bool (decide (((n : Int) - (0 - 0)) > 0))), (15, .int .i64 ((n : Int) - (0 - 0)))] (fun _ => by kernel_rfl) (WLd rfl (QXn (hK12 _ _ ?_))))
 refine WCa 16 (decide (((n : Int) - (0 - 0)) > 0)) rfl (fun t13b => ?_) (fun t13b => ?_)
 ·
  have t13 : (0 : Int) < ((n : Int) - (0 - 0)) := by have q_ := of_decide_eq_true t13b; omega
  refine WCt rfl ?_
  refine WCg (WLr 3 [(19, .int .i64 0), (18, .slice none 0 0), (17, .slice none 0 0)] (fun _ => by kernel_rfl) ?_)
  have hb14 : 0 ≤ 0 := by omega
  refine WL.slc 22 5 1 none none 0 0 0 0 0 0 none (some (.int .i64 0)) 20 (by kernel_rfl) (by kernel_rfl) bnd.no (bnd.yes (by omega)) (by omega) hb14 (slcAt_pre _ _ _) (by first | rfl | omega) (by first | rfl | omega) ?_
  refine WLr 1 [(21, .int .i64 ((n : Int) - (0 - 0)))] (fun _ => by kernel_rfl) ?_
  obtain ⟨g15, c16, w17, hr18, hge19, hF20, hn21, hcm22, hC23⟩ := appZ_run Try.prog hC 22 3 22 5 1 1 0 0 n (A := none) (z := .int .u8 0) (xs := []) rfl rfl (by kernel_rfl) (by decide) (by simp) (.inr ⟨rfl, rfl, rfl⟩) (by omega) (by omega) (by omega) ((n : Int) - (0 - 0)) (by omega)
  have hL2l : ([] ++ (Builtin.zeroCells (Value.int .u8 0).cells n).toList ++ (Builtin.zeroCells (Value.int .u8 0).cells (c16 - (0 + n))).toList).length = c16 := by simp [size_zeroCells, Value.cells]; omega
  generalize hL2 : ([] ++ (Builtin.zeroCells (Value.int .u8 0).cells n).toList ++ (Builtin.zeroCells (Value.int .u8 0).cells (c16 - (0 + n))).toList) = L2 at hC23 hL2l
  refine WL.sem (Builtin.append_ #[22, 3] 22 #[.slice none 0 0, .int .i64 ((n : Int) - (0 - 0))]) 22 (.slice (some ⟨g15, 0, none⟩) (0 + n) c16) (by kernel_rfl) hr18 ?_
  refine WLr 2 [(24, .int .i64 0), (23, .slice none 0 0)] (fun _ => by kernel_rfl) ?_
  have hb24 : 0 ≤ c16 := by omega
  refine WL.slc 22 5 1 (some ⟨g15, 0, none⟩) (some ⟨g15, 0, none⟩) (0 + n) c16 0 0 0 c16 none (some (.int .i64 0)) 25 (by kernel_rfl) (by kernel_rfl) bnd.no (bnd.yes (by omega)) (by omega) hb24 (slcAt_pre _ _ _) (by first | rfl | omega) (by first | rfl | omega) ?_
  refine WLr 1 [(0, .slice (some ⟨g15, 0, none⟩) 0 c16)] (fun _ => by kernel_rfl) (WLd rfl (QXn (hK8 _ _ ?_)))
  refine WCs (fun K25 hK26 => ?_)
  refine WCg (WLr 2 [(4, .slice (some ⟨g15, 0, none⟩) 0 c16), (26, .slice (some ⟨g15, 0, none⟩) 0 c16)] (fun _ => by kernel_rfl) (WLd rfl (QXn (hK26 _ _ ?_))))
  refine WC.ret ?_
  refine (hret _ _ _ rfl ?_).1
  exact ⟨_, rfl, hC23.fr, own_of_blk hge19 (hC23.get 0 rfl) (by omega) hcm22 (by simpa using hL2l) (by simp)⟩
 ·
  have t13 : ((n : Int) - (0 - 0)) ≤ 0 := by have q_ := of_decide_eq_false t13b; omega
  refine WCf rfl (WC.skip (QXn (hK8 _ _ ?_)))
  refine WCs (fun K27 hK28 => ?_)
  refine WCg (WLr 2 [(4, .slice none 0 0), (26, .slice none 0 0)] (fun _ => by kernel_rfl) (WLd rfl (QXn (hK28 _ _ ?_))))
  refine WC.ret ?_
  refine (hret _ _ _ rfl ?_).1
  exact ⟨_, rfl, hC.fr, own_nil _ _ _ _⟩

set_option maxHeartbeats 1000000 in
theorem ConcatB (A : Option Addr) (c : Nat) (ps : List BRow) (w : World) (hps : Rd w 1 cellB A ps) (hr : ∀ r ∈ ps, rowAt w r) (hpl : ps.length < 2 ^ 60) (hlim : (catL ps).length ≤ 70000000) : Calls Try.prog 31 #[.slice A ps.length c] w fun e w' => ∃ v, e = .returned v ∧ Fr w w' [] ∧ w'.ownsRow w.heap.size 5 1 v (catL ps).length ((catL ps).flatMap (Go.Tw.encI .u8)) := by
 refine enterD (n := 36) Try.func31 rfl rfl (Nat.le_of_ble_eq_true rfl) ?_
 intro Q0 hN hret hret'
 have hC := Cx.start w
 refine WCs (fun K1 hK2 => ?_)
 refine WCg (WLr 1 [(2, .slice none 0 0)] (fun _ => by kernel_rfl) (WLd rfl (QXn (hK2 _ _ ?_))))
 refine WCs (fun K3 hK4 => ?_)
 refine WCg (WLr 1 [(3, .int .i64 0)] (fun _ => by kernel_rfl) (WLd rfl (QXn (hK4 _ _ ?_))))
 refine WCs (fun K5 hK6 => ?_)
 refine WCs (fun K7 hK8 => ?_)
 refine WCg (WLr 3 [(11, .int .i64 0), (10, .int .i64 (ps.length : Int)), (9, .slice A ps.length c)] (fun _ => by kernel_rfl) (WLd rfl (QXn (hK8 _ _ ?_))))
 refine WC.block ?_
 refine WC.loop (fun m_ E_ w_ => ∃ (i : Nat) (u : Int), m_ = ps.length - i ∧ E_ = [(0, .slice A ps.length c), (2, .slice none 0 0), (3, .int .i64 u), (9, .slice A ps.length c), (10, .int .i64 (ps.length : Int)), (11, .int .i64 (i : Int))] ∧ Cx w [] w_ [] [] ∧ (i ≤ ps.length ∧ u = ((catL (ps.take i)).length : Int))) ⟨_, _, ⟨0, 0, rfl, rfl, hC, Nat.zero_le _, rfl⟩, sub_of ⟨rfl, rfl, rfl, rfl, rfl, rfl, trivial⟩⟩ (fun m12 E_ w13 K9 hK10 hI11 => ?_)
 obtain ⟨i, u, rfl, rfl, hC14, hi, hu⟩ := hI11
 refine WCs (fun K15 hK16 => ?_)
 refine WCg (WLr 1 [(12, .bool (decide ((i : Int) < (ps.length : Int))))] (fun _ => by kernel_rfl) (WLd rfl (QXn (hK16 _ _ ?_))))
 refine WCs (fun K17 hK18 => ?_)
 refine WCa 12 (decide ((i : Int) < (ps.length : Int))) rfl (fun t19b => ?_) (fun t19b => ?_)
 ·
  have t19 : (i : Int) < (ps.length : Int) := by have q_ := of_decide_eq_true t19b; omega
  refine WCt rfl ?_
  refine WC.skip ?_
  refine QXn (hK18 _ _ ?_)
  refine WCs (fun K20 hK21 => ?_)
  refine WC.block ?_
  refine WCs (fun K22 hK23 => ?_)
  refine WCg ?_
  obtain ⟨e24, he25⟩ := get_some (xs := ps) (i := i) (by omega)
  obtain ⟨b26, o28, hA27, hc29⟩ := hps.at_ _ _ he25
  have hre_ := hr _ (List.mem_of_getElem? he25)
  have hln_ := hre_.len
  obtain ⟨hcs_, hcl_⟩ := cat_snoc_le he25
  refine WLi A ps.length c 13 .i64 (i : Int) b26 o28 i 1 (by kernel_rfl) hA27 (by omega) (by omega) (o28 + i) (by first | (simp; done) | omega) ?_
  refine WL.load 22 (.pointer (some ⟨b26, o28 + i, none⟩)) (.slice e24.a e24.n e24.c) 14 (by kernel_rfl) (run_load1 rfl (by simpa [Nat.add_assoc] using hC14.fr.cell (hc29 0 _ rfl) (by simp))) ?_
  refine WLr 1 [(5, .slice e24.a e24.n e24.c)] (fun _ => by kernel_rfl) (WLd rfl (QXn (hK23 _ _ ?_)))
  refine WCs (fun K30 hK31 => ?_)
  refine WCg (WLr 4 [(18, .int .i64 (IntKind.i64.wrap (u + (e24.n : Int)))), (17, .int .i64 (e24.n : Int)), (16, .slice e24.a e24.n e24.c), (15, .int .i64 u)] (fun _ => by kernel_rfl) ?_)
  refine WLt (show (.int .i64 (IntKind.i64.wrap (u + (e24.n : Int))) : Value) = .int .i64 (u + (e24.n : Int)) from by rw [wrap_in_i64 (u + (e24.n : Int)) (by omega) (by omega)]) ?_
  refine WLr 1 [(3, .int .i64 (u + (e24.n : Int)))] (fun _ => by kernel_rfl) (WLd rfl (QXn (hK31 _ _ ?_)))
  refine WCs (fun K32 hK33 => ?_)
  refine WCg (WLr 2 [(20, .bool (decide ((u + (e24.n : Int)) < 0))), (19, .int .i64 (u + (e24.n : Int)))] (fun _ => by kernel_rfl) (WLd rfl (QXn (hK33 _ _ ?_))))
  refine WC.know 20 (.bool (decide ((u + (e24.n : Int)) < 0))) (.bool false) rfl (congrArg Value.bool (by simp; omega)) ?_
  refine WCf rfl (WC.skip ?_)
  refine QXb ?_
  refine QXn (hK21 _ _ ?_)
  refine WCg (WLr 1 [(22, .int .i64 (IntKind.i64.wrap ((i : Int) + 1)))] (fun _ => by kernel_rfl) ?_)
  refine WLt (show (.int .i64 (IntKind.i64.wrap ((i : Int) + 1)) : Value) = .int .i64 ((i : Int) + 1) from by rw [wrap_in_i64 ((i : Int) + 1) (by omega) (by omega)]) ?_
  refine WLr 1 [(11, .int .i64 ((i : Int) + 1))] (fun _ => by kernel_rfl) ?_
  refine WLd rfl ?_
  refine QXn ?_
  have hC34 := hC14.pick [] [] rfl rfl
  refine fun a_ ha_ => hK10 _ _ _ ?_ ⟨i + 1, u + (e24.n : Int), rfl, rfl, hC34, by omega, by omega⟩ a_ (ha_.weaken (sub_of ⟨rfl, rfl, rfl, rfl, rfl, rfl, trivial⟩))
  omega
 ·
  have t19 : (ps.length : Int) ≤ (i : Int) := by have q_ := of_decide_eq_false t19b; omega
  refine WCf rfl ?_
  have hi_ : i = ps.length := by omega
  subst hi_
  rw [List.take_length] at hu
  subst hu
  refine WC.exit ?_
  refine QXe ?_
  refine QXe ?_
  refine QX.block_hit ?_
  refine QXn (hK6 _ _ ?_)
  refine WCs (fun K35 hK36 => ?_)
  refine WCg (WLr 1 [(23, .int .i64 ((catL ps).length : Int))] (fun _ => by kernel_rfl) ?_)
  refine WLc rfl rfl rfl rfl rfl (by kernel_rfl) (GrowB ((catL ps).length) w13 (by omega)) ?_
  rintro _ w39 ⟨v_, rfl, hF38, ho37⟩
  have hC40 := hC14.callN hF38 (own_ge ho37) (own_lt ho37)
  obtain ⟨A41, c42, rfl, hle43⟩ := own_form ho37
  have ho45 := own_base (b' := 0) ho37 (fun _ _ => Nat.zero_le _)
  refine ⟨_, rfl, ?_⟩
  refine WLr 1 [(6, .slice A41 0 c42)] (fun _ => by kernel_rfl) (WLd rfl (QXn (hK36 _ _ ?_)))
  refine WCs (fun K46 hK47 => ?_)
  refine WCs (fun K48 hK49 => ?_)
  refine WCg (WLr 3 [(27, .int .i64 0), (26, .int .i64 (ps.length : Int)), (25, .slice A ps.length c)] (fun _ => by kernel_rfl) (WLd rfl (QXn (hK49 _ _ ?_))))
  refine WC.block ?_
  refine WC.loop (fun m_ E_ w_ => ∃ (i2 : Nat) (A5 : Option Addr) (n5 c5 : Nat), m_ = ps.length - i2 ∧ E_ = [(0, .slice A ps.length c), (2, .slice none 0 0), (3, .int .i64 ((catL ps).length : Int)), (6, .slice A5 n5 c5), (9, .slice A ps.length c), (10, .int .i64 (ps.length : Int)), (11, .int .i64 (ps.length : Int)), (12, .bool false), (23, .int .i64 ((catL ps).length : Int)), (24, .slice A41 0 c42), (25, .slice A ps.length c), (26, .int .i64 (ps.length : Int)), (27, .int .i64 (i2 : Int))] ∧ Cx w [] w_ [] [blk (.slice A5 n5 c5)] ∧ World.ownsRow w_ 0 5 1 (.slice A5 n5 c5) n5 ((catL (ps.take i2)).flatMap (Go.Tw.encI .u8)) ∧ (i2 ≤ ps.length)) ⟨_, _, ⟨0, A41, 0, c42, rfl, rfl, hC40, ho45, Nat.zero_le _⟩, sub_of ⟨rfl, rfl, rfl, rfl, rfl, rfl, rfl, rfl, rfl, rfl, rfl, rfl, rfl, trivial⟩⟩ (fun m53 E_ w54 K50 hK51 hI52 => ?_)
  obtain ⟨i2, A5, n5, c5, rfl, rfl, hC55, hrow, hi2⟩ := hI52
  have hcn_ := own_count (Go.Tw.encI_len _) (by decide) hrow
  refine WCs (fun K56 hK57 => ?_)
  refine WCg (WLr 1 [(28, .bool (decide ((i2 : Int) < (ps.length : Int))))] (fun _ => by kernel_rfl) (WLd rfl (QXn (hK57 _ _ ?_))))
  refine WCs (fun K58 hK59 => ?_)
  refine WCa 28 (decide ((i2 : Int) < (ps.length : Int))) rfl (fun t60b => ?_) (fun t60b => ?_)
  ·
   have t60 : (i2 : Int) < (ps.length : Int) := by have q_ := of_decide_eq_true t60b; omega
   refine WCt rfl ?_
   refine WC.skip ?_
   refine QXn (hK59 _ _ ?_)
   refine WCs (fun K61 hK62 => ?_)
   refine WC.block ?_
   refine WCs (fun K63 hK64 => ?_)
   refine WCg ?_
   obtain ⟨e65, he66⟩ := get_some (xs := ps) (i := i2) (by omega)
   obtain ⟨b67, o69, hA68, hc70⟩ := hps.at_ _ _ he66
   have hre_ := hr _ (List.mem_of_getElem? he66)
   have hln_ := hre_.len
   obtain ⟨hcs_, hcl_⟩ := cat_snoc_le he66
   refine WLi A ps.length c 29 .i64 (i2 : Int) b67 o69 i2 1 (by kernel_rfl) hA68 (by omega) (by omega) (o69 + i2) (by first | (simp; done) | omega) ?_
   refine WL.load 22 (.pointer (some ⟨b67, o69 + i2, none⟩)) (.slice e65.a e65.n e65.c) 30 (by kernel_rfl) (run_load1 rfl (by simpa [Nat.add_assoc] using hC55.fr.cell (hc70 0 _ rfl) (by simp))) ?_
   refine WLr 1 [(8, .slice e65.a e65.n e65.c)] (fun _ => by kernel_rfl) (WLd rfl (QXn (hK64 _ _ ?_)))
   refine WCg (WLr 2 [(32, .slice e65.a e65.n e65.c), (31, .slice A5 n5 c5)] (fun _ => by kernel_rfl) ?_)
   obtain ⟨v71, w72, hr73, ho74, hF75, hC76, hnil77, hsub78⟩ := app_run Try.prog hC55 0 (v := .slice A5 n5 c5) rfl 22 22 5 1 1 n5 e65.n e65.c e65.a rfl hrow (e65.xs.flatMap (Go.Tw.encI .u8)) (flat_len_n (Go.Tw.encI_len _) (by first | rfl | assumption | (simp; done) | (simp; omega))) (Rd.src_n (Rd.fr hre_.rd hC55.fr) (Go.Tw.encI_len _) (by decide) (by first | rfl | assumption | (simp; done) | (simp; omega))) (flat_one (Go.Tw.encI_one _) _) (by simp only [maxLen]; omega) (by omega)
   have ho82 := own_app (enc := (Go.Tw.encI .u8)) (ys := (catL (ps.take i2))) (zs := e65.xs) ho74
   obtain ⟨A79, c80, rfl, hle81⟩ := own_form ho82
   refine WL.sem (Builtin.append_ #[22, 22] 22 #[.slice A5 n5 c5, .slice e65.a e65.n e65.c]) 33 (.slice A79 (n5 + e65.n) c80) (by kernel_rfl) hr73 ?_
   refine WLr 1 [(6, .slice A79 (n5 + e65.n) c80)] (fun _ => by kernel_rfl) ?_
   refine WLd rfl ?_
   refine QXb ?_
   refine QXn (hK62 _ _ ?_)
   refine WCg (WLr 1 [(34, .int .i64 (IntKind.i64.wrap ((i2 : Int) + 1)))] (fun _ => by kernel_rfl) ?_)
   refine WLt (show (.int .i64 (IntKind.i64.wrap ((i2 : Int) + 1)) : Value) = .int .i64 ((i2 : Int) + 1) from by rw [wrap_in_i64 ((i2 : Int) + 1) (by omega) (by omega)]) ?_
   refine WLr 1 [(27, .int .i64 ((i2 : Int) + 1))] (fun _ => by kernel_rfl) ?_
   refine WLd rfl ?_
   refine QXn ?_
   have hC83 := hC76.pick [] [0] rfl rfl
   refine fun a_ ha_ => hK51 _ _ _ ?_ ⟨i2 + 1, A79, n5 + e65.n, c80, rfl, rfl, hC83, by rw [cat_snoc he66]; exact ho82, by omega⟩ a_ (ha_.weaken (sub_of ⟨rfl, rfl, rfl, rfl, rfl, rfl, rfl, rfl, rfl, rfl, rfl, rfl, rfl, trivial⟩))
   omega
  ·
   have t60 : (ps.length : Int) ≤ (i2 : Int) := by have q_ := of_decide_eq_false t60b; omega
   refine WCf rfl ?_
   refine WC.exit ?_
   refine QXe ?_
   refine QXe ?_
   refine QX.block_hit ?_
   refine QXn (hK47 _ _ ?_)
   refine WCs (fun K84 hK85 => ?_)
   refine WCg (WLr 2 [(2, .slice A5 n5 c5), (35, .slice A5 n5 c5)] (fun _ => by kernel_rfl) (WLd rfl (QXn (hK85 _ _ ?_))))
   refine WC.ret ?_
   refine (hret _ _ _ rfl ?_).1
   clear hN hret hret' hK85 hK59 hK57 hK49 hK47 hK36 hK18 hK16 hK8 hK6 hK4 hK2
   have hi_ : i2 = ps.length := by omega
   subst hi_
   have ho_ := hrow
   rw [List.take_length] at ho_ hcn_
   subst hcn_
   exact ⟨_, rfl, hC55.fr, own_base ho_ (newF_of hC55 0 rfl (fun _ h_ => nomatch h_) (fun _ h_ => nomatch h_))⟩

theorem size_ct (b : Nat) (m : Mt) (w : World) (hpr : pairsAt w b m) : Calls Try.prog 35 #[.map (some b)] w fun e w' => e = .returned (.int .i64 (usedL (ct m) : Int)) ∧ Fr w w' [] := by
 refine enterD (n := 21) Try.func35 rfl rfl (Nat.le_of_ble_eq_true rfl) ?_
 intro Q0 hN hret hret'
 have hpr0 := hpr
 obtain ⟨⟨es, cl, hb_, hm_⟩, hrows_, hkeys_, hused_, hlt_⟩ := hpr
 have hC := Cx.startMs w [(b, .map es cl)] (by simp) (by simp [hb_])
 refine WCs (fun K1 hK2 => ?_)
 refine WCg (WLr 1 [(2, .int .i64 0)] (fun _ => by kernel_rfl) (WLd rfl (QXn (hK2 _ _ ?_))))
 refine WCs (fun K3 hK4 => ?_)
 refine WCg (WLr 1 [(3, .int .i64 0)] (fun _ => by kernel_rfl) (WLd rfl (QXn (hK4 _ _ ?_))))
 refine WCs (fun K5 hK6 => ?_)
 refine WCs (fun K7 hK8 => ?_)
 refine WCg (WLr 1 [(6, .map (some b))] (fun _ => by kernel_rfl) ?_)
 obtain ⟨it9, w10, hr11, hF12, hC13, hge14⟩ := range_run (P := Try.prog) hC 0 rfl (t := 68) (rfl : Program.underlying Try.prog 68 = some (.map 9 22))
 refine WL.sem (Instr.range 68 (.map (some b))) 7 (.pointer (some ⟨it9, 0, none⟩)) (by kernel_rfl) hr11 ?_
 refine WLd rfl (QXn (hK8 _ _ ?_))
 refine WC.block ?_
 refine WC.loop (fun m_ E_ w_ => ∃ (seen15 : Array Nat) (vis15 left15 : List (ByteArray × BRow)) (u : Int), m_ = left15.length ∧ E_ = [(0, .map (some b)), (2, .int .i64 0), (3, .int .i64 u), (6, .map (some b)), (7, .pointer (some ⟨it9, 0, none⟩))] ∧ Cx w [b] w_ [(b, .map es cl), (it9, .mapIter (some b) cl seen15 cl)] [] ∧ (It ekS evB es seen15 m vis15 left15 ∧ u = (usedL (ct vis15) : Int))) ⟨_, _, ⟨#[], [], m, 0, rfl, rfl, hC13, (It.start hm_), rfl⟩, sub_of ⟨rfl, rfl, rfl, rfl, rfl, trivial⟩⟩ (fun m19 E_ w20 K16 hK17 hI18 => ?_)
 obtain ⟨seen15, vis15, left15, u, rfl, rfl, hC21, hit15, hu⟩ := hI18
 skip
 refine WCs (fun K22 hK23 => ?_)
 refine WCg ?_
 rcases next_run (P := Try.prog) hC21 0 1 rfl rfl hm_ hit15 0 with ⟨hl24, hr25⟩ | ⟨p26, l27, l28, seen29, w30, hl24, hr25, hF31, hC32, hit33, hent34⟩
 ·
  refine WL.sem (Instr.next (.pointer (some ⟨it9, 0, none⟩)) false 0) 8 (.tuple #[.bool false]) (by kernel_rfl) hr25 ?_
  refine WLr 1 [(9, .bool false)] (fun _ => by kernel_rfl) (WLd rfl (QXn (hK23 _ _ ?_)))
  refine WCs (fun K35 hK36 => ?_)
  refine WCf rfl ?_
  refine WC.exit ?_
  refine QXe ?_
  refine QXe ?_
  refine QX.block_hit ?_
  refine QXn (hK6 _ _ ?_)
  refine WCs (fun K37 hK38 => ?_)
  refine WCg (WLr 2 [(2, .int .i64 u), (20, .int .i64 u)] (fun _ => by kernel_rfl) (WLd rfl (QXn (hK38 _ _ ?_))))
  refine WC.ret ?_
  refine (hret _ _ _ rfl ?_).1
  clear hN hret hret' hK38 hK36 hK23 hK8 hK6 hK4 hK2
  have hq_ := used_perm (ct_perm (hit15.perm_end hl24))
  rw [hq_] at hu
  exact ⟨by show Ending.returned (.int .i64 u) = _; rw [hu], hC21.fr.shrink (by intro x hx; simp at hx; subst hx; exact (hC21.get 0 rfl).trans hb_.symm)⟩
 ·
  refine WL.sem (Instr.next (.pointer (some ⟨it9, 0, none⟩)) false 0) 8 (.tuple #[.bool true, .string p26.1, .slice p26.2.a p26.2.n p26.2.c]) (by kernel_rfl) hr25 ?_
  refine WLr 1 [(9, .bool true)] (fun _ => by kernel_rfl) (WLd rfl (QXn (hK23 _ _ ?_)))
  refine WCs (fun K39 hK40 => ?_)
  refine WCt rfl ?_
  refine WC.skip ?_
  refine QXn (hK40 _ _ ?_)
  refine WC.block ?_
  refine WCs (fun K41 hK42 => ?_)
  refine WCg ?_
  refine WL.sem (Instr.entry (.pointer (some ⟨it9, 0, none⟩))) 10 (.tuple #[.string p26.1, .slice p26.2.a p26.2.n p26.2.c]) (by kernel_rfl) (hent34 _ (hC32.get 1 rfl) (hC32.get 0 rfl)) ?_
  obtain ⟨hiu_, hix_⟩ := it_used hit33
  have hre_ := hrows_ _ hix_
  have hln_ := hre_.len
  refine WLr 4 [(5, .slice p26.2.a p26.2.n p26.2.c), (4, .string p26.1), (12, .slice p26.2.a p26.2.n p26.2.c), (11, .string p26.1)] (fun _ => by kernel_rfl) (WLd rfl (QXn (hK42 _ _ ?_)))
  refine WCg (WLr 6 [(18, .int .i64 (IntKind.i64.wrap ((p26.1.size : Int) + (p26.2.n : Int)))), (17, .int .i64 (p26.2.n : Int)), (16, .slice p26.2.a p26.2.n p26.2.c), (15, .int .i64 (p26.1.size : Int)), (14, .string p26.1), (13, .int .i64 u)] (fun _ => by kernel_rfl) ?_)
  refine WLt (show (.int .i64 (IntKind.i64.wrap ((p26.1.size : Int) + (p26.2.n : Int))) : Value) = .int .i64 ((p26.1.size : Int) + (p26.2.n : Int)) from by rw [wrap_in_i64 ((p26.1.size : Int) + (p26.2.n : Int)) (by omega) (by omega)]) ?_
  refine WLr 1 [(19, .int .i64 (IntKind.i64.wrap (u + ((p26.1.size : Int) + (p26.2.n : Int)))))] (fun _ => by kernel_rfl) ?_
  refine WLt (show (.int .i64 (IntKind.i64.wrap (u + ((p26.1.size : Int) + (p26.2.n : Int)))) : Value) = .int .i64 (u + ((p26.1.size : Int) + (p26.2.n : Int))) from by rw [wrap_in_i64 (u + ((p26.1.size : Int) + (p26.2.n : Int))) (by omega) (by omega)]) ?_
  refine WLr 1 [(3, .int .i64 (u + ((p26.1.size : Int) + (p26.2.n : Int))))] (fun _ => by kernel_rfl) ?_
  refine WLd rfl ?_
  refine QXb ?_
  refine QXn ?_
  have hC43 := hC32.pick [0, 1] [] rfl rfl
  refine fun a_ ha_ => hK17 _ _ _ ?_ ⟨seen29, (vis15 ++ [p26]), (l27 ++ l28), u + ((p26.1.size : Int) + (p26.2.n : Int)), rfl, rfl, hC43, hit33, by rw [used_snoc]; omega⟩ a_ (ha_.weaken (sub_of ⟨rfl, rfl, rfl, rfl, rfl, trivial⟩))
  rw [hl24]; simp

def cnt1 (m : Mt) (Y : Ct) : Nat := ((ct m).filter fun p => !decide (lookL Y p.1 = some p.2)).length
def cnt2 (m : Mt) (N : Ct) : Nat := ((ct m).filter fun p => (lookL N p.1).isNone).length
theorem cnt1_snoc (vis : Mt) (p : ByteArray × BRow) (Y : Ct) : cnt1 (vis ++ [p]) Y = cnt1 vis Y + if lookL Y p.1 = some p.2.xs then 0 else 1 := by
  unfold cnt1 ct; rw [List.map_append, List.filter_append, List.length_append]; congr 1; simp only [List.map_cons, List.map_nil, List.filter_cons]; split <;> simp_all
theorem cnt2_snoc (vis : Mt) (p : ByteArray × BRow) (N : Ct) : cnt2 (vis ++ [p]) N = cnt2 vis N + if (lookL N p.1).isNone then 1 else 0 := by
  unfold cnt2 ct; rw [List.map_append, List.filter_append, List.length_append]; congr 1; simp only [List.map_cons, List.map_nil, List.filter_cons]; split <;> simp_all
theorem cnt1_le (m : Mt) (Y : Ct) : cnt1 m Y ≤ m.length := by unfold cnt1; exact Nat.le_trans (List.length_filter_le _ _) (by simp [ct])
theorem cnt2_le (m : Mt) (Y : Ct) : cnt2 m Y ≤ m.length := by unfold cnt2; exact Nat.le_trans (List.length_filter_le _ _) (by simp [ct])
theorem cnt1_perm {a b : Mt} (h : a.Perm b) (Y : Ct) : cnt1 a Y = cnt1 b Y := ((ct_perm h).filter _).length_eq
theorem cnt2_perm {a b : Mt} (h : a.Perm b) (Y : Ct) : cnt2 a Y = cnt2 b Y := ((ct_perm h).filter _).length_eq
theorem unl_eq (m1 m2 : Mt) : unlN (ct m1) (ct m2) = cnt1 m1 (ct m2) + cnt2 m2 (ct m1) := rfl
theorem len_le {m : Mt} (hk : keyOk (ct m)) (hu : usedL (ct m) ≤ 67108864) : m.length ≤ 67108864 := by
  have h := len_used hk
  have h2 : (ct m).length = m.length := by simp [ct]
  omega
theorem it_len {es : Array MapEntry} {seen : Array Nat} {m vis rest : Mt} (h : It ekS evB es seen m vis rest) : vis.length ≤ m.length := by
  have := h.all.length_eq; rw [List.length_append] at this; omega
set_option maxHeartbeats 1000000 in
theorem unlike_ct (b1 b2 : Nat) (m1 m2 : Mt) (w : World) (hp1 : pairsAt w b1 m1) (hp2 : pairsAt w b2 m2) (hne : b1 ≠ b2) : Calls Try.prog 32 #[.map (some b1), .map (some b2)] w fun e w' => e = .returned (.int .i64 (unlN (ct m1) (ct m2) : Int)) ∧ Fr w w' [] := by
 refine enterD (n := 53) Try.func32 rfl rfl (Nat.le_of_ble_eq_true rfl) ?_
 intro Q0 hN hret hret'
 obtain ⟨⟨es1, cl1, hb1_, hm1_⟩, hrows1_, hkeys1_, hused1_, hlt1_⟩ := hp1
 obtain ⟨⟨es2, cl2, hb2_, hm2_⟩, hrows2_, hkeys2_, hused2_, hlt2_⟩ := hp2
 have hl1_ := len_le hkeys1_ hused1_
 have hl2_ := len_le hkeys2_ hused2_
 have hC := Cx.startMs w [(b1, .map es1 cl1), (b2, .map es2 cl2)] (by simpa using hne) (by simp [hb1_, hb2_])
 refine WCs (fun K1 hK2 => ?_)
 refine WCg (WLr 1 [(4, .int .i64 0)] (fun _ => by kernel_rfl) (WLd rfl (QXn (hK2 _ _ ?_))))
 refine WCs (fun K3 hK4 => ?_)
 refine WCg (WLr 1 [(5, .int .i64 0)] (fun _ => by kernel_rfl) (WLd rfl (QXn (hK4 _ _ ?_))))
 refine WCs (fun K5 hK6 => ?_)
 refine WCs (fun K7 hK8 => ?_)
 refine WCg (WLr 1 [(13, .map (some b1))] (fun _ => by kernel_rfl) ?_)
 obtain ⟨it9, w10, hr11, hF12, hC13, hge14⟩ := range_run (P := Try.prog) hC 0 rfl (t := 68) (rfl : Program.underlying Try.prog 68 = some (.map 9 22))
 refine WL.sem (Instr.range 68 (.map (some b1))) 14 (.pointer (some ⟨it9, 0, none⟩)) (by kernel_rfl) hr11 ?_
 refine WLd rfl (QXn (hK8 _ _ ?_))
 refine WC.block ?_
 refine WC.loop (fun m_ E_ w_ => ∃ (seen15 : Array Nat) (vis15 left15 : List (ByteArray × BRow)) (u : Int), m_ = left15.length ∧ E_ = [(0, .map (some b1)), (1, .map (some b2)), (4, .int .i64 0), (5, .int .i64 u), (14, .pointer (some ⟨it9, 0, none⟩))] ∧ Cx w [b1, b2] w_ [(b1, .map es1 cl1), (b2, .map es2 cl2), (it9, .mapIter (some b1) cl1 seen15 cl1)] [] ∧ (It ekS evB es1 seen15 m1 vis15 left15 ∧ u = (cnt1 vis15 (ct m2) : Int))) ⟨_, _, ⟨#[], [], m1, 0, rfl, rfl, hC13, (It.start hm1_), rfl⟩, sub_of ⟨rfl, rfl, rfl, rfl, rfl, trivial⟩⟩ (fun m19 E_ w20 K16 hK17 hI18 => ?_)
 obtain ⟨seen15, vis15, left15, u, rfl, rfl, hC21, hit15, hu⟩ := hI18
 have hvl_ := it_len hit15
 have hvc_ := cnt1_le vis15 (ct m2)
 refine WCs (fun K22 hK23 => ?_)
 refine WCg ?_
 rcases next_run (P := Try.prog) hC21 0 2 rfl rfl hm1_ hit15 0 with ⟨hl24, hr25⟩ | ⟨p26, l27, l28, seen29, w30, hl24, hr25, hF31, hC32, hit33, hent34⟩
 ·
  refine WL.sem (Instr.next (.pointer (some ⟨it9, 0, none⟩)) false 0) 15 (.tuple #[.bool false]) (by kernel_rfl) hr25 ?_
  refine WLr 1 [(16, .bool false)] (fun _ => by kernel_rfl) (WLd rfl (QXn (hK23 _ _ ?_)))
  refine WCs (fun K35 hK36 => ?_)
  refine WCf rfl ?_
  have hq1_ := cnt1_perm (hit15.perm_end hl24) (ct m2)
  rw [hq1_] at hu
  refine WC.exit ?_
  refine QXe ?_
  refine QXe ?_
  refine QX.block_hit ?_
  refine QXn (hK6 _ _ ?_)
  refine WCs (fun K37 hK38 => ?_)
  refine WCs (fun K39 hK40 => ?_)
  refine WCg (WLr 1 [(36, .map (some b2))] (fun _ => by kernel_rfl) ?_)
  obtain ⟨it41, w42, hr43, hF44, hC45, hge46⟩ := range_run (P := Try.prog) hC21 1 rfl (t := 68) (rfl : Program.underlying Try.prog 68 = some (.map 9 22))
  refine WL.sem (Instr.range 68 (.map (some b2))) 37 (.pointer (some ⟨it41, 0, none⟩)) (by kernel_rfl) hr43 ?_
  refine WLd rfl (QXn (hK40 _ _ ?_))
  refine WC.block ?_
  refine WC.loop (fun m_ E_ w_ => ∃ (seen47 : Array Nat) (vis47 left47 : List (ByteArray × BRow)) (u2 : Int), m_ = left47.length ∧ E_ = [(0, .map (some b1)), (1, .map (some b2)), (4, .int .i64 0), (5, .int .i64 u2), (37, .pointer (some ⟨it41, 0, none⟩))] ∧ Cx w [b1, b2] w_ [(b1, .map es1 cl1), (b2, .map es2 cl2), (it9, .mapIter (some b1) cl1 seen15 cl1), (it41, .mapIter (some b2) cl2 seen47 cl2)] [] ∧ (It ekS evB es2 seen47 m2 vis47 left47 ∧ u2 = (cnt1 m1 (ct m2) : Int) + (cnt2 vis47 (ct m1) : Int))) ⟨_, _, ⟨#[], [], m2, u, rfl, rfl, hC45, (It.start hm2_), by rw [hu]; simp [cnt2, ct]⟩, sub_of ⟨rfl, rfl, rfl, rfl, rfl, trivial⟩⟩ (fun m51 E_ w52 K48 hK49 hI50 => ?_)
  obtain ⟨seen47, vis47, left47, u2, rfl, rfl, hC53, hit47, hu2⟩ := hI50
  have hvl_ := it_len hit47
  have hvc_ := cnt2_le vis47 (ct m1)
  refine WCs (fun K54 hK55 => ?_)
  refine WCg ?_
  rcases next_run (P := Try.prog) hC53 1 3 rfl rfl hm2_ hit47 0 with ⟨hl56, hr57⟩ | ⟨p58, l59, l60, seen61, w62, hl56, hr57, hF63, hC64, hit65, hent66⟩
  ·
   refine WL.sem (Instr.next (.pointer (some ⟨it41, 0, none⟩)) false 0) 38 (.tuple #[.bool false]) (by kernel_rfl) hr57 ?_
   refine WLr 1 [(39, .bool false)] (fun _ => by kernel_rfl) (WLd rfl (QXn (hK55 _ _ ?_)))
   refine WCs (fun K67 hK68 => ?_)
   refine WCf rfl ?_
   refine WC.exit ?_
   refine QXe ?_
   refine QXe ?_
   refine QX.block_hit ?_
   refine QXn (hK38 _ _ ?_)
   refine WCs (fun K69 hK70 => ?_)
   refine WCg (WLr 2 [(4, .int .i64 u2), (52, .int .i64 u2)] (fun _ => by kernel_rfl) (WLd rfl (QXn (hK70 _ _ ?_))))
   refine WC.ret ?_
   refine (hret _ _ _ rfl ?_).1
   clear hN hret hret' hK70 hK68 hK55 hK40 hK38 hK36 hK23 hK8 hK6 hK4 hK2
   have hq2_ := cnt2_perm (hit47.perm_end hl56) (ct m1)
   rw [hq2_] at hu2
   exact ⟨by show Ending.returned (.int .i64 u2) = _; rw [hu2, unl_eq]; simp, (hC53.fr.shrink (by intro x hx; simp at hx; rcases hx with rfl | rfl; exact (hC53.get 0 rfl).trans hb1_.symm; exact (hC53.get 1 rfl).trans hb2_.symm))⟩
  ·
   refine WL.sem (Instr.next (.pointer (some ⟨it41, 0, none⟩)) false 0) 38 (.tuple #[.bool true, .string p58.1, .slice p58.2.a p58.2.n p58.2.c]) (by kernel_rfl) hr57 ?_
   refine WLr 1 [(39, .bool true)] (fun _ => by kernel_rfl) (WLd rfl (QXn (hK55 _ _ ?_)))
   refine WCs (fun K71 hK72 => ?_)
   refine WCt rfl ?_
   refine WC.skip ?_
   refine QXn (hK72 _ _ ?_)
   refine WC.block ?_
   refine WCs (fun K73 hK74 => ?_)
   refine WCg ?_
   refine WL.sem (Instr.entry (.pointer (some ⟨it41, 0, none⟩))) 40 (.tuple #[.string p58.1, .slice p58.2.a p58.2.n p58.2.c]) (by kernel_rfl) (hent66 _ (hC64.get 3 rfl) (hC64.get 1 rfl)) ?_
   obtain ⟨hiu_, hix_⟩ := it_used hit65
   have hre_ := hrows2_ _ hix_
   have hln_ := hre_.len
   have hil_ := it_len hit65
   rw [List.length_append] at hil_
   simp only [List.length_cons, List.length_nil] at hil_
   refine WLr 2 [(10, .string p58.1), (41, .string p58.1)] (fun _ => by kernel_rfl) (WLd rfl (QXn (hK74 _ _ ?_)))
   refine WCs (fun K75 hK76 => ?_)
   refine WCg (WLr 2 [(44, .string p58.1), (43, .map (some b1))] (fun _ => by kernel_rfl) ?_)
   obtain ⟨xv77, hxv78⟩ : ∃ x_, (lookL m1 p58.1).getD zeroB = x_ := ⟨_, rfl⟩
   obtain ⟨bv79, hbv80⟩ : ∃ b_, (lookL m1 p58.1).isSome = b_ := ⟨_, rfl⟩
   have hr81 := lookM_ok (P := Try.prog) (w := w62) (ek := ekS) (ev := evB) (d := zeroB) (rfl : Program.underlying Try.prog 68 = some (.map 9 22)) keyS (fun _ => by kernel_rfl) (hC64.get 0 rfl) hm1_ p58.1 hxv78 hbv80
   refine WL.sem (Instr.lookup 68 (.map (some b1)) (.string p58.1) true) 45 (.tuple #[.slice xv77.a xv77.n xv77.c, .bool bv79]) (by kernel_rfl) hr81 ?_
   refine WLr 5 [(12, .bool bv79), (11, .slice xv77.a xv77.n xv77.c), (47, .bool bv79), (46, .slice xv77.a xv77.n xv77.c), (42, .tuple #[.slice xv77.a xv77.n xv77.c, .bool bv79])] (fun _ => by kernel_rfl) (WLd rfl (QXn (hK76 _ _ ?_)))
   refine WCs (fun K82 hK83 => ?_)
   refine WCg (WLr 2 [(49, .bool !bv79), (48, .bool bv79)] (fun _ => by kernel_rfl) (WLd rfl (QXn (hK83 _ _ ?_))))
   refine WCa 49 (!bv79) rfl (fun t84b => ?_) (fun t84b => ?_)
   ·
    have t84 : bv79 = false := by first | (simpa only [Bool.not_eq_true', Bool.not_eq_false'] using t84b) | simpa using t84b
    refine WCt rfl ?_
    refine WCg (WLr 2 [(51, .int .i64 (IntKind.i64.wrap (u2 + 1))), (50, .int .i64 u2)] (fun _ => by kernel_rfl) ?_)
    refine WLt (show (.int .i64 (IntKind.i64.wrap (u2 + 1)) : Value) = .int .i64 (u2 + 1) from by rw [wrap_in_i64 (u2 + 1) (by omega) (by omega)]) ?_
    refine WLr 1 [(5, .int .i64 (u2 + 1))] (fun _ => by kernel_rfl) ?_
    refine WLd rfl ?_
    refine QXb ?_
    refine QXn ?_
    have hC85 := hC64.pick [0, 1, 2, 3] [] rfl rfl
    refine fun a_ ha_ => hK49 _ _ _ ?_ ⟨seen61, (vis47 ++ [p58]), (l59 ++ l60), u2 + 1, rfl, rfl, hC85, hit65, by rw [cnt2_snoc, ct_look, (look_none hxv78 (by rw [hbv80]; simpa using t84b)).1]; simp; try omega⟩ a_ (ha_.weaken (sub_of ⟨rfl, rfl, rfl, rfl, rfl, trivial⟩))
    rw [hl56]; simp
   ·
    have t84 : bv79 = true := by first | (simpa only [Bool.not_eq_true', Bool.not_eq_false'] using t84b) | simpa using t84b
    refine WCf rfl (WC.skip ?_)
    refine QXb ?_
    refine QXn ?_
    have hC86 := hC64.pick [0, 1, 2, 3] [] rfl rfl
    refine fun a_ ha_ => hK49 _ _ _ ?_ ⟨seen61, (vis47 ++ [p58]), (l59 ++ l60), u2, rfl, rfl, hC86, hit65, by rw [cnt2_snoc, ct_look, (look_some hxv78 (by rw [hbv80]; simpa using t84b))]; simp; try omega⟩ a_ (ha_.weaken (sub_of ⟨rfl, rfl, rfl, rfl, rfl, trivial⟩))
    rw [hl56]; simp
 ·
  refine WL.sem (Instr.next (.pointer (some ⟨it9, 0, none⟩)) false 0) 15 (.tuple #[.bool true, .string p26.1, .slice p26.2.a p26.2.n p26.2.c]) (by kernel_rfl) hr25 ?_
  refine WLr 1 [(16, .bool true)] (fun _ => by kernel_rfl) (WLd rfl (QXn (hK23 _ _ ?_)))
  refine WCs (fun K87 hK88 => ?_)
  refine WCt rfl ?_
  refine WC.skip ?_
  refine QXn (hK88 _ _ ?_)
  refine WC.block ?_
  refine WCs (fun K89 hK90 => ?_)
  refine WCg ?_
  refine WL.sem (Instr.entry (.pointer (some ⟨it9, 0, none⟩))) 17 (.tuple #[.string p26.1, .slice p26.2.a p26.2.n p26.2.c]) (by kernel_rfl) (hent34 _ (hC32.get 2 rfl) (hC32.get 0 rfl)) ?_
  obtain ⟨hiu_, hix_⟩ := it_used hit33
  have hre_ := hrows1_ _ hix_
  have hln_ := hre_.len
  have hil_ := it_len hit33
  rw [List.length_append] at hil_
  simp only [List.length_cons, List.length_nil] at hil_
  refine WLr 4 [(7, .slice p26.2.a p26.2.n p26.2.c), (6, .string p26.1), (19, .slice p26.2.a p26.2.n p26.2.c), (18, .string p26.1)] (fun _ => by kernel_rfl) (WLd rfl (QXn (hK90 _ _ ?_)))
  refine WCs (fun K91 hK92 => ?_)
  refine WCg (WLr 2 [(22, .string p26.1), (21, .map (some b2))] (fun _ => by kernel_rfl) ?_)
  obtain ⟨xv93, hxv94⟩ : ∃ x_, (lookL m2 p26.1).getD zeroB = x_ := ⟨_, rfl⟩
  obtain ⟨bv95, hbv96⟩ : ∃ b_, (lookL m2 p26.1).isSome = b_ := ⟨_, rfl⟩
  have hr97 := lookM_ok (P := Try.prog) (w := w30) (ek := ekS) (ev := evB) (d := zeroB) (rfl : Program.underlying Try.prog 68 = some (.map 9 22)) keyS (fun _ => by kernel_rfl) (hC32.get 1 rfl) hm2_ p26.1 hxv94 hbv96
  refine WL.sem (Instr.lookup 68 (.map (some b2)) (.string p26.1) true) 23 (.tuple #[.slice xv93.a xv93.n xv93.c, .bool bv95]) (by kernel_rfl) hr97 ?_
  refine WLr 5 [(9, .bool bv95), (8, .slice xv93.a xv93.n xv93.c), (25, .bool bv95), (24, .slice xv93.a xv93.n xv93.c), (20, .tuple #[.slice xv93.a xv93.n xv93.c, .bool bv95])] (fun _ => by kernel_rfl) (WLd rfl (QXn (hK92 _ _ ?_)))
  refine WCs (fun K98 hK99 => ?_)
  refine WCg (WLr 3 [(28, .bool !bv95), (27, .bool !bv95), (26, .bool bv95)] (fun _ => by kernel_rfl) ?_)
  refine WLa 28 (!bv95) rfl (fun t100b => ?_) (fun t100b => ?_)
  ·
   have t100 : bv95 = false := by first | (simpa only [Bool.not_eq_true', Bool.not_eq_false'] using t100b) | simpa using t100b
   refine WLr 5 [(33, .bool true), (32, undef), (31, undef), (30, undef), (29, undef)] (fun _ => by kernel_rfl) (WLd rfl (QXn (hK99 _ _ ?_)))
   refine WCt rfl ?_
   refine WCg (WLr 2 [(35, .int .i64 (IntKind.i64.wrap (u + 1))), (34, .int .i64 u)] (fun _ => by kernel_rfl) ?_)
   refine WLt (show (.int .i64 (IntKind.i64.wrap (u + 1)) : Value) = .int .i64 (u + 1) from by rw [wrap_in_i64 (u + 1) (by omega) (by omega)]) ?_
   refine WLr 1 [(5, .int .i64 (u + 1))] (fun _ => by kernel_rfl) ?_
   refine WLd rfl ?_
   refine QXb ?_
   refine QXn ?_
   have hC101 := hC32.pick [0, 1, 2] [] rfl rfl
   refine fun a_ ha_ => hK17 _ _ _ ?_ ⟨seen29, (vis15 ++ [p26]), (l27 ++ l28), u + 1, rfl, rfl, hC101, hit33, by rw [cnt1_snoc, if_neg (by rw [ct_look, (look_none hxv94 (by rw [hbv96]; simpa using t100b)).1]; simp)]; omega⟩ a_ (ha_.weaken (sub_of ⟨rfl, rfl, rfl, rfl, rfl, trivial⟩))
   rw [hl24]; simp
  ·
   have t100 : bv95 = true := by first | (simpa only [Bool.not_eq_true', Bool.not_eq_false'] using t100b) | simpa using t100b
   refine WLr 2 [(30, .slice xv93.a xv93.n xv93.c), (29, .slice p26.2.a p26.2.n p26.2.c)] (fun _ => by kernel_rfl) ?_
   have hlk102 := look_some hxv94 (by rw [hbv96]; simpa using t100b)
   have hrb103 := hrows2_ _ (look_mem hlk102)
   refine WLc rfl rfl rfl rfl rfl (by kernel_rfl) (EqualB p26.2.a xv93.a p26.2.n p26.2.c xv93.n xv93.c p26.2.xs xv93.xs w30 (Rd.fr hre_.rd (hC32.fr.shrink (by intro x hx; simp at hx; rcases hx with rfl | rfl; exact (hC32.get 0 rfl).trans hb1_.symm; exact (hC32.get 1 rfl).trans hb2_.symm))) (Rd.fr hrb103.rd (hC32.fr.shrink (by intro x hx; simp at hx; rcases hx with rfl | rfl; exact (hC32.get 0 rfl).trans hb1_.symm; exact (hC32.get 1 rfl).trans hb2_.symm))) hre_.len hrb103.len hre_.byt hrb103.byt) ?_
   rintro _ w105 ⟨rfl, hF104⟩
   refine ⟨_, rfl, ?_⟩
   have hC106 := hC32.call hF104
   refine WLr 2 [(33, .bool (!(decide (p26.2.xs = xv93.xs)))), (32, .bool (!(decide (p26.2.xs = xv93.xs))))] (fun _ => by kernel_rfl) (WLd rfl (QXn (hK99 _ _ ?_)))
   refine WCa 33 (!(decide (p26.2.xs = xv93.xs))) rfl (fun t107b => ?_) (fun t107b => ?_)
   ·
    have t107 : (decide (p26.2.xs = xv93.xs)) = false := by first | (simpa only [Bool.not_eq_true', Bool.not_eq_false'] using t107b) | simpa using t107b
    refine WCt rfl ?_
    refine WCg (WLr 2 [(35, .int .i64 (IntKind.i64.wrap (u + 1))), (34, .int .i64 u)] (fun _ => by kernel_rfl) ?_)
    refine WLt (show (.int .i64 (IntKind.i64.wrap (u + 1)) : Value) = .int .i64 (u + 1) from by rw [wrap_in_i64 (u + 1) (by omega) (by omega)]) ?_
    refine WLr 1 [(5, .int .i64 (u + 1))] (fun _ => by kernel_rfl) ?_
    refine WLd rfl ?_
    refine QXb ?_
    refine QXn ?_
    have hC108 := hC106.pick [0, 1, 2] [] rfl rfl
    refine fun a_ ha_ => hK17 _ _ _ ?_ ⟨seen29, (vis15 ++ [p26]), (l27 ++ l28), u + 1, rfl, rfl, hC108, hit33, by rw [cnt1_snoc, if_neg (by rw [ct_look, (look_some hxv94 (by rw [hbv96]; simpa using t100b))]; have q_ := of_decide_eq_false t107; simp only [Option.map_some, Option.some.injEq]; first | exact q_.symm | exact fun q2_ => q_ q2_.symm)]; omega⟩ a_ (ha_.weaken (sub_of ⟨rfl, rfl, rfl, rfl, rfl, trivial⟩))
    rw [hl24]; simp
   ·
    have t107 : (decide (p26.2.xs = xv93.xs)) = true := by first | (simpa only [Bool.not_eq_true', Bool.not_eq_false'] using t107b) | simpa using t107b
    refine WCf rfl (WC.skip ?_)
    refine QXb ?_
    refine QXn ?_
    have hC109 := hC106.pick [0, 1, 2] [] rfl rfl
    refine fun a_ ha_ => hK17 _ _ _ ?_ ⟨seen29, (vis15 ++ [p26]), (l27 ++ l28), u, rfl, rfl, hC109, hit33, by rw [cnt1_snoc, if_pos (by rw [ct_look, (look_some hxv94 (by rw [hbv96]; simpa using t100b))]; have q_ := of_decide_eq_true t107; simp only [Option.map_some, Option.some.injEq]; first | exact q_.symm | exact fun q2_ => q_ q2_.symm)]; omega⟩ a_ (ha_.weaken (sub_of ⟨rfl, rfl, rfl, rfl, rfl, trivial⟩))
    rw [hl24]; simp

end Go.Proofs.Ytkhdliobbbmkoaa
