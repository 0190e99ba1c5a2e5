/- Contracts of functions of the program, each proved by a walk through its code; conditions stand in the statements. -/
import Derived.Test.YtjacpjdikhlcoaaVtD14
namespace Go.Proofs.Ytjacpjdikhlcoaa
set_option linter.unusedSimpArgs false
set_option linter.unusedVariables false
set_option linter.unusedSectionVars false
open Go Go.RowKit Go.Tw
set_option linter.unusedVariables false
set_option maxRecDepth 20000
theorem blk_in2 {A : Option Addr} {n c n' c' x : Nat} (h : x ∈ blk (.slice A n c)) : x ∈ blk (.slice A n' c') := by cases A <;> exact h
theorem CloneE_ct (A : Option Addr) (c : Nat) (xs : List EndV) (w : World) (hr : Rd w 3 cellsE A xs) (hl : xs.length ≤ 1099511627776) : Calls Try.prog 94 #[.slice A xs.length c] w fun e w' => ∃ (A2 : Option Addr) (c2 : Nat), e = .returned (.slice A2 xs.length c2) ∧ Fr w w' [] ∧ w'.ownsRow w.heap.size 91 3 (.slice A2 xs.length c2) xs.length (xs.flatMap cellsE) := by
 refine enterD (n := 8) Try.func94 rfl rfl (Nat.le_of_ble_eq_true rfl) ?_
 intro Q0 hN hret hret'
 have hC := Cx.start w
 refine WCs (fun K1 hK2 => ?_)
 refine WCg (WLr 1 [(2, .slice none 0 0)] (fun _ => by kernel_rfl) (WLd rfl (QXn (hK2 _ _ ?_))))
 refine WCs (fun K3 hK4 => ?_)
 refine WCs (fun K5 hK6 => ?_)
 refine WCg (WLr 1 [(3, .slice A xs.length c)] (fun _ => by kernel_rfl) ?_)
 have hr7 : ∀ w_, Sem.run Try.prog (do eqGuard .eql 57 (Operand.tmp 3) (Operand.const (.slice none 0 0)) (.slice A xs.length c) (.slice none 0 0); binOp .eql 57 (.slice A xs.length c) (.slice none 0 0)) w_ = .ok (.bool (Option.isNone A)) w_ := fun w_ => (by cases (A : Option Addr) <;> kernel_rfl)
 refine WL.sem (do eqGuard .eql 57 (Operand.tmp 3) (Operand.const (.slice none 0 0)) (.slice A xs.length c) (.slice none 0 0); binOp .eql 57 (.slice A xs.length c) (.slice none 0 0)) 4 (.bool (Option.isNone A)) (by kernel_rfl) (hr7 _) ?_
 refine WLd rfl (QXn (hK6 _ _ ?_))
 refine WCa 4 (Option.isNone A) rfl (fun t8b => ?_) (fun t8b => ?_)
 ·
  refine WCt rfl ?_
  refine WCs (fun K9 hK10 => ?_)
  refine WCg (WLr 1 [(2, .slice none 0 0)] (fun _ => by kernel_rfl) (WLd rfl (QXn (hK10 _ _ ?_))))
  refine WC.ret ?_
  refine QXr ?_
  refine (hret _ _ _ rfl ?_).1
  clear hN hret hret' hK10 hK6 hK4 hK2
  have hA_ : A = none := by simpa using t8b
  subst hA_
  obtain rfl := Rd.of_none hr
  exact ⟨none, 0, rfl, hC.fr, own_nil _ _ _ _⟩
 ·
  refine WCf rfl (WC.skip (QXn (hK4 _ _ ?_)))
  refine WCs (fun K11 hK12 => ?_)
  refine WCg ?_
  refine WL.newM hC (fun b => .slice (some ⟨b, 0, none⟩) 0 0) (.cells #[] 91) 5 (fun _ => by kernel_rfl) (fun g13 w14 hb17 hF15 hC16 => ?_)
  refine WLr 1 [(6, .slice A xs.length c)] (fun _ => by kernel_rfl) ?_
  have ho19 : World.ownsRow w14 0 91 3 (.slice (some ⟨g13, 0, none⟩) 0 0) 0 [] := own_of_blk (Nat.zero_le _) (hC16.get 0 rfl) (Nat.le_refl _) (Nat.zero_le _) (by simp) rfl
  have hC18 := hC16.toF 0 rfl
  obtain ⟨v21, w22, hr23, ho24, hF25, hC26, hnil27, hsub28⟩ := app_run Try.prog hC18 0 (v := .slice (some ⟨g13, 0, none⟩) 0 0) rfl 57 57 91 3 24 0 xs.length c A rfl ho19 (xs.flatMap cellsE) (flat_len_n cellsE_len (by first | rfl | assumption | (simp; done) | (simp; omega))) (Rd.src_n (Rd.fr hr hC18.fr) cellsE_len (by decide) (by first | rfl | assumption | (simp; done) | (simp; omega))) (flat_one cellsE_one _) (by simp only [maxLen]; omega) (by omega)
  have ho32 := own_app (enc := cellsE) (ys := []) (zs := xs) ho24
  obtain ⟨A29, c30, rfl, hle31⟩ := own_form ho32
  refine WL.sem (Builtin.append_ #[57, 57] 57 #[.slice (some ⟨g13, 0, none⟩) 0 0, .slice A xs.length c]) 7 (.slice A29 (0 + xs.length) c30) (by kernel_rfl) hr23 ?_
  refine WLr 1 [(2, .slice A29 (0 + xs.length) c30)] (fun _ => by kernel_rfl) (WLd rfl (QXn (hK12 _ _ ?_)))
  refine WC.ret ?_
  refine (hret _ _ _ rfl ?_).1
  clear hN hret hret' hK12 hK6 hK4 hK2
  have ho_ := ho32
  rw [show (0 + xs.length : Nat) = xs.length from by omega, show ([] : List EndV) ++ xs = xs from rfl] at ho_
  exact ⟨A29, c30, by show Ending.returned (.slice _ (0 + xs.length) _) = _; rw [Nat.zero_add], hC26.fr, own_base ho_ (fun x_ hx_ => newF_of hC26 0 rfl (fun _ h_ => nomatch h_) (fun _ h_ => nomatch h_) x_ (blk_in2 hx_))⟩

theorem CloneE_n (A : Option Addr) (n c : Nat) (xs : List EndV) (w : World) (hr : Rd w 3 cellsE A xs) (hn : xs.length = n) (hl : n ≤ 1099511627776) : Calls Try.prog 94 #[.slice A n c] w fun e w' => ∃ (A2 : Option Addr) (c2 : Nat), e = .returned (.slice A2 xs.length c2) ∧ Fr w w' [] ∧ w'.ownsRow w.heap.size 91 3 (.slice A2 xs.length c2) xs.length (xs.flatMap cellsE) := by subst hn; exact CloneE_ct A c xs w hr hl
theorem copied_ct (m : Cmd) (w : World) (h : cmdAt w m) : Calls Try.prog 75 #[.agg #[.int .i64 m.v.node, .int .i64 m.v.boot, .int .i64 m.v.seq, .int .i64 m.v.time, .int .i64 m.v.kind, .int .u32 m.v.svip, .int .i64 m.v.sproto, .int .i64 m.v.sport, .slice m.a m.v.ends.length m.c, .int .u32 m.v.dip, .int .u32 m.v.vip, .bool m.v.up]] w fun e w' => ∃ (A2 : Option Addr) (c2 : Nat), e = .returned (.agg #[.int .i64 m.v.node, .int .i64 m.v.boot, .int .i64 m.v.seq, .int .i64 m.v.time, .int .i64 m.v.kind, .int .u32 m.v.svip, .int .i64 m.v.sproto, .int .i64 m.v.sport, .slice A2 m.v.ends.length c2, .int .u32 m.v.dip, .int .u32 m.v.vip, .bool m.v.up]) ∧ Fr w w' [] ∧ w'.ownsRow w.heap.size 91 3 (.slice A2 m.v.ends.length c2) m.v.ends.length (m.v.ends.flatMap cellsE) := by
 refine enterD (n := 10) Try.func75 rfl rfl (Nat.le_of_ble_eq_true rfl) ?_
 intro Q0 hN hret hret'
 have hC := Cx.start w
 refine WCs (fun K1 hK2 => ?_)
 refine WCg ?_
 refine WL.newM hC (fun b => .pointer (some ⟨b, 0, none⟩)) (.cells #[.int .i64 m.v.node, .int .i64 m.v.boot, .int .i64 m.v.seq, .int .i64 m.v.time, .int .i64 m.v.kind, .int .u32 m.v.svip, .int .i64 m.v.sproto, .int .i64 m.v.sport, .slice m.a m.v.ends.length m.c, .int .u32 m.v.dip, .int .u32 m.v.vip, .bool m.v.up] 61) 1 (fun _ => by kernel_rfl) (fun g3 w4 hb7 hF5 hC6 => ?_)
 refine WL.newM hC6 (fun b => .pointer (some ⟨b, 0, none⟩)) (.cells #[.int .i64 0, .int .i64 0, .int .i64 0, .int .i64 0, .int .i64 0, .int .u32 0, .int .i64 0, .int .i64 0, .slice none 0 0, .int .u32 0, .int .u32 0, .bool false] 61) 2 (fun _ => by kernel_rfl) (fun g8 w9 hb12 hF10 hC11 => ?_)
 refine WLd rfl (QXn (hK2 _ _ ?_))
 refine WCs (fun K13 hK14 => ?_)
 refine WCg (WLr 2 [(4, .pointer (some ⟨g3, 8, none⟩)), (3, .pointer (some ⟨g3, 5, none⟩))] (fun _ => by kernel_rfl) ?_)
 refine WL.load 57 (.pointer (some ⟨g3, 8, none⟩)) (.slice m.a m.v.ends.length m.c) 5 (by kernel_rfl) (run_ld (hC11.get 0 rfl) rfl) ?_
 refine WLc rfl rfl rfl rfl rfl (by kernel_rfl) (CloneE_n m.a m.v.ends.length m.c m.v.ends w9 (Rd.fr h.rd hC11.fr) rfl h.lim) ?_
 rintro _ w18 ⟨A15, c16, rfl, hF17, ho20⟩
 have hC19 := hC11.callN hF17 (own_ge ho20) (own_lt ho20)
 have ho21 := own_base (b' := 0) ho20 (fun _ _ => Nat.zero_le _)
 refine ⟨_, rfl, ?_⟩
 refine WLr 2 [(8, .pointer (some ⟨g3, 8, none⟩)), (7, .pointer (some ⟨g3, 5, none⟩))] (fun _ => by kernel_rfl) ?_
 refine WLs (c' := #[.int .i64 m.v.node, .int .i64 m.v.boot, .int .i64 m.v.seq, .int .i64 m.v.time, .int .i64 m.v.kind, .int .u32 m.v.svip, .int .i64 m.v.sproto, .int .i64 m.v.sport, .slice A15 m.v.ends.length c16, .int .u32 m.v.dip, .int .u32 m.v.vip, .bool m.v.up]) hC19 0 57 g3 8 (.slice A15 m.v.ends.length c16) (by kernel_rfl) rfl (by kernel_rfl) (fun w23 hF25 hC26 => ?_)
 have ho27 := own_fr ho21 hF25 (hC19.apartM 0 0 rfl rfl)
 refine WLd rfl (QXn (hK14 _ _ ?_))
 refine WCs (fun K28 hK29 => ?_)
 refine WCg ?_
 refine WL.load 61 (.pointer (some ⟨g3, 0, none⟩)) (.agg #[.int .i64 m.v.node, .int .i64 m.v.boot, .int .i64 m.v.seq, .int .i64 m.v.time, .int .i64 m.v.kind, .int .u32 m.v.svip, .int .i64 m.v.sproto, .int .i64 m.v.sport, .slice A15 m.v.ends.length c16, .int .u32 m.v.dip, .int .u32 m.v.vip, .bool m.v.up]) 9 (by kernel_rfl) (run_ld (hC26.get 0 rfl) rfl) ?_
 refine WLs (c' := #[.int .i64 m.v.node, .int .i64 m.v.boot, .int .i64 m.v.seq, .int .i64 m.v.time, .int .i64 m.v.kind, .int .u32 m.v.svip, .int .i64 m.v.sproto, .int .i64 m.v.sport, .slice A15 m.v.ends.length c16, .int .u32 m.v.dip, .int .u32 m.v.vip, .bool m.v.up]) hC26 1 61 g8 0 (.agg #[.int .i64 m.v.node, .int .i64 m.v.boot, .int .i64 m.v.seq, .int .i64 m.v.time, .int .i64 m.v.kind, .int .u32 m.v.svip, .int .i64 m.v.sproto, .int .i64 m.v.sport, .slice A15 m.v.ends.length c16, .int .u32 m.v.dip, .int .u32 m.v.vip, .bool m.v.up]) (by kernel_rfl) rfl (by kernel_rfl) (fun w30 hF32 hC33 => ?_)
 have ho34 := own_fr ho27 hF32 (hC26.apartM 0 1 rfl rfl)
 refine WLd rfl (QXn (hK29 _ _ ?_))
 refine WC.ret ?_
 refine (hret' _ _ (.agg #[.int .i64 m.v.node, .int .i64 m.v.boot, .int .i64 m.v.seq, .int .i64 m.v.time, .int .i64 m.v.kind, .int .u32 m.v.svip, .int .i64 m.v.sproto, .int .i64 m.v.sport, .slice A15 m.v.ends.length c16, .int .u32 m.v.dip, .int .u32 m.v.vip, .bool m.v.up]) (fun a ha => ?_) ?_).1
 ·
  exact res_run ha ((ResR.cell rfl (run_ld (hC33.get 1 rfl) rfl) ResR.nil)) rfl
 exact ⟨A15, c16, rfl, hC33.fr, own_base ho34 (newF_of hC33 0 rfl (fun _ h_ => nomatch h_) (fun _ h_ => nomatch h_))⟩

theorem cmd_own {w : World} {v : CmdV} {A : Option Addr} {c T b : Nat} (ho : w.ownsRow b T 3 (.slice A v.ends.length c) v.ends.length (v.ends.flatMap cellsE)) (hw : wfC v) (hl : v.ends.length ≤ 1099511627776) : cmdAt w ⟨v, A, c⟩ :=
  ⟨own_rd (own_base (b' := 0) ho (fun _ _ => Nat.zero_le _)) cellsE_len (by decide), hw, hl, own_le ho⟩
theorem logIn.add {w w' : World} {R : List Nat} {L : List Cmd} {v : CmdV} {A : Option Addr} {c T : Nat} (h : logIn w R L) (hf : Fr w w' []) (ho : w'.ownsRow w.heap.size T 3 (.slice A v.ends.length c) v.ends.length (v.ends.flatMap cellsE)) (hw : wfC v) (hl : v.ends.length ≤ 1099511627776) : logIn w' (R ++ blk (.slice A v.ends.length c)) (L ++ [⟨v, A, c⟩]) :=
  ((h.fr hf (fun _ _ => by simp)).mono (fun _ h_ => List.mem_append_left _ h_)).snoc (cmd_own ho hw hl) (fun _ h_ => List.mem_append_right _ h_)
theorem vals_take {L : List Cmd} {i : Nat} {e : Cmd} (h : L[i]? = some e) : vals (L.take (i + 1)) = vals (L.take i) ++ [e.v] := by
  obtain ⟨hi, rfl⟩ := List.getElem?_eq_some_iff.1 h
  rw [List.take_succ_eq_append_getElem hi, vals_snoc]
theorem absorbC {w0 w w' : World} {F0 : List Nat} {M : List (Nat × Obj)} {Fs : List (List Nat)} (h : Cx w0 F0 w M Fs) (j : Nat) {F G : List Nat} (hj : Fs[j]? = some F) (hf : Fr w w' []) (hg : ∀ x ∈ G, w.heap.size ≤ x) (hb : ∀ x ∈ G, x < w'.heap.size) : Cx w0 F0 w' M (Fs.set j (F ++ G)) :=
  h.callF j hj (hf.mono (fun _ h_ => nomatch h_)) (fun x hx => (List.mem_append.1 hx).imp id (hg x)) (fun x hx => (List.mem_append.1 hx).elim (fun h_ => Nat.lt_of_lt_of_le (h.bound _ (List.mem_of_getElem? hj) x h_) hf.size) (hb x))
set_option maxHeartbeats 1000000 in
theorem clone_ct (A : Option Addr) (c : Nat) (L : List Cmd) (w : World) (hr : Rd w 12 cellsC A L) (hL : ∀ m ∈ L, cmdAt w m) (hl : L.length ≤ 1099511627776) : Calls Try.prog 50 #[.slice A L.length c] w fun e w' => ∃ (A2 : Option Addr) (c2 : Nat) (L2 : List Cmd) (R2 : List Nat), e = .returned (.slice A2 L2.length c2) ∧ Fr w w' [] ∧ w'.ownsRow w.heap.size 61 12 (.slice A2 L2.length c2) L2.length (L2.flatMap cellsC) ∧ logIn w' R2 L2 ∧ vals L2 = vals L ∧ (∀ x ∈ R2, w.heap.size ≤ x ∧ x < w'.heap.size) ∧ (∀ x ∈ blk (.slice A2 L2.length c2), x ∉ R2) := by
 refine enterD (n := 19) Try.func50 rfl rfl (Nat.le_of_ble_eq_true rfl) ?_
 intro Q0 hN hret hret'
 have hC := Cx.start w
 refine WCs (fun K1 hK2 => ?_)
 refine WCg (WLr 1 [(2, .slice none 0 0)] (fun _ => by kernel_rfl) (WLd rfl (QXn (hK2 _ _ ?_))))
 refine WCs (fun K3 hK4 => ?_)
 refine WCg (WLr 1 [(3, .slice none 0 0)] (fun _ => by kernel_rfl) (WLd rfl (QXn (hK4 _ _ ?_))))
 refine WCs (fun K5 hK6 => ?_)
 refine WCs (fun K7 hK8 => ?_)
 refine WCg (WLr 3 [(8, .int .i64 0), (7, .int .i64 (L.length : Int)), (6, .slice A L.length c)] (fun _ => by kernel_rfl) (WLd rfl (QXn (hK8 _ _ ?_))))
 refine WC.block ?_
 have hC9 := hC.addNil
 have hC10 := hC9.addNil
 have hl11 : logIn w (blk (.slice none 0 0)) [] := logIn.nil _ _
 refine WC.loop (fun m_ E_ w_ => ∃ (i : Nat) (A5 : Option Addr) (n5 c5 : Nat) (R5 : List Nat) (L5 : List Cmd), m_ = L.length - i ∧ E_ = [(0, .slice A L.length c), (3, .slice A5 n5 c5), (6, .slice A L.length c), (7, .int .i64 (L.length : Int)), (8, .int .i64 (i : Int))] ∧ Cx w [] w_ [] [blk (.slice A5 n5 c5), R5] ∧ World.ownsRow w_ 0 61 12 (.slice A5 n5 c5) n5 (L5.flatMap cellsC) ∧ logIn w_ R5 L5 ∧ (i ≤ L.length ∧ vals L5 = vals (L.take i))) ⟨_, _, ⟨0, none, 0, 0, (blk (.slice none 0 0)), [], rfl, rfl, hC10, own_nil _ _ _ _, hl11, Nat.zero_le _, rfl⟩, sub_of ⟨rfl, rfl, rfl, rfl, rfl, trivial⟩⟩ (fun m15 E_ w16 K12 hK13 hI14 => ?_)
 obtain ⟨i, A5, n5, c5, R5, L5, rfl, rfl, hC17, hrow5, hlog5, hi, hvv⟩ := hI14
 have hcn5_ := own_count cellsC_len (by decide) hrow5
 have hvl5_ := vals_len L5
 have hvt_ := congrArg List.length hvv
 rw [vals_len, vals_len, List.length_take] at hvt_
 refine WCs (fun K18 hK19 => ?_)
 refine WCg (WLr 1 [(9, .bool (decide ((i : Int) < (L.length : Int))))] (fun _ => by kernel_rfl) (WLd rfl (QXn (hK19 _ _ ?_))))
 refine WCs (fun K20 hK21 => ?_)
 refine WCa 9 (decide ((i : Int) < (L.length : Int))) rfl (fun t22b => ?_) (fun t22b => ?_)
 ·
  have t22 : (i : Int) < (L.length : Int) := by have q_ := of_decide_eq_true t22b; omega
  refine WCt rfl ?_
  refine WC.skip ?_
  refine QXn (hK21 _ _ ?_)
  refine WCs (fun K23 hK24 => ?_)
  refine WC.block ?_
  refine WCs (fun K25 hK26 => ?_)
  refine WCg ?_
  obtain ⟨e27, he28⟩ := get_some (xs := L) (i := i) (by omega)
  obtain ⟨b29, o31, hA30, hc32⟩ := hr.at_ _ _ he28
  have hc_e27 := hL _ (List.mem_of_getElem? he28)
  obtain ⟨hbs0_e27, hbs1_e27⟩ := hc_e27.wf.svip
  obtain ⟨hbd0_e27, hbd1_e27⟩ := hc_e27.wf.dip
  obtain ⟨hbv0_e27, hbv1_e27⟩ := hc_e27.wf.vip
  have hbl_e27 := hc_e27.lim
  refine WLi A L.length c 10 .i64 (i : Int) b29 o31 i 12 (by kernel_rfl) hA30 (by omega) (by omega) (o31 + i * 12) (by first | (simp; done) | omega) ?_
  refine WL.load 61 (.pointer (some ⟨b29, o31 + i * 12, none⟩)) (.agg #[.int .i64 e27.v.node, .int .i64 e27.v.boot, .int .i64 e27.v.seq, .int .i64 e27.v.time, .int .i64 e27.v.kind, .int .u32 e27.v.svip, .int .i64 e27.v.sproto, .int .i64 e27.v.sport, .slice e27.a e27.v.ends.length e27.c, .int .u32 e27.v.dip, .int .u32 e27.v.vip, .bool e27.v.up]) 11 (by kernel_rfl) (run_rdN (l := [.int .i64 e27.v.node, .int .i64 e27.v.boot, .int .i64 e27.v.seq, .int .i64 e27.v.time, .int .i64 e27.v.kind, .int .u32 e27.v.svip, .int .i64 e27.v.sproto, .int .i64 e27.v.sport, .slice e27.a e27.v.ends.length e27.c, .int .u32 e27.v.dip, .int .u32 e27.v.vip, .bool e27.v.up]) rfl rfl (fun j u hu => by have hq_ := hC17.fr.cell (hc32 j u hu) (by simp); simpa [Nat.add_assoc] using hq_)) ?_
  refine WL.newM hC17 (fun b => .pointer (some ⟨b, 0, none⟩)) (.cells #[.int .i64 0, .int .i64 0, .int .i64 0, .int .i64 0, .int .i64 0, .int .u32 0, .int .i64 0, .int .i64 0, .slice none 0 0, .int .u32 0, .int .u32 0, .bool false] 61) 5 (fun _ => by kernel_rfl) (fun g33 w34 hb37 hF35 hC36 => ?_)
  have ho38 := own_fr hrow5 hF35 (by simp)
  have hl39 := logIn.fr hlog5 hF35 (by simp)
  refine WLs (c' := #[.int .i64 e27.v.node, .int .i64 e27.v.boot, .int .i64 e27.v.seq, .int .i64 e27.v.time, .int .i64 e27.v.kind, .int .u32 e27.v.svip, .int .i64 e27.v.sproto, .int .i64 e27.v.sport, .slice e27.a e27.v.ends.length e27.c, .int .u32 e27.v.dip, .int .u32 e27.v.vip, .bool e27.v.up]) hC36 0 61 g33 0 (.agg #[.int .i64 e27.v.node, .int .i64 e27.v.boot, .int .i64 e27.v.seq, .int .i64 e27.v.time, .int .i64 e27.v.kind, .int .u32 e27.v.svip, .int .i64 e27.v.sproto, .int .i64 e27.v.sport, .slice e27.a e27.v.ends.length e27.c, .int .u32 e27.v.dip, .int .u32 e27.v.vip, .bool e27.v.up]) (by kernel_rfl) rfl (by kernel_rfl) (fun w40 hF42 hC43 => ?_)
  have ho44 := own_fr ho38 hF42 (hC36.apartM 0 0 rfl rfl)
  have hl45 := logIn.fr hl39 hF42 (hC36.apartM 1 0 rfl rfl)
  refine WLd rfl (QXn (hK26 _ _ ?_))
  refine WCg (WLr 1 [(12, .slice A5 n5 c5)] (fun _ => by kernel_rfl) ?_)
  refine WL.load 61 (.pointer (some ⟨g33, 0, none⟩)) (.agg #[.int .i64 e27.v.node, .int .i64 e27.v.boot, .int .i64 e27.v.seq, .int .i64 e27.v.time, .int .i64 e27.v.kind, .int .u32 e27.v.svip, .int .i64 e27.v.sproto, .int .i64 e27.v.sport, .slice e27.a e27.v.ends.length e27.c, .int .u32 e27.v.dip, .int .u32 e27.v.vip, .bool e27.v.up]) 13 (by kernel_rfl) (run_ld (hC43.get 0 rfl) rfl) ?_
  refine WLc rfl rfl rfl rfl rfl (by kernel_rfl) (copied_ct e27 w40 (cmdAt.fr0 hc_e27 hC43.fr)) ?_
  rintro _ w49 ⟨A46, c47, rfl, hF48, ho51⟩
  have hC50 := absorbC hC43 1 rfl hF48 (own_ge ho51) (own_lt ho51)
  have hl52 := logIn.add hl45 hF48 ho51 hc_e27.wf hc_e27.lim
  have ho53 := own_fr ho44 hF48 (by simp)
  refine ⟨_, rfl, ?_⟩
  refine WL.newM hC50 (fun b => .slice (some ⟨b, 0, none⟩) 1 1) (.cells #[.int .i64 e27.v.node, .int .i64 e27.v.boot, .int .i64 e27.v.seq, .int .i64 e27.v.time, .int .i64 e27.v.kind, .int .u32 e27.v.svip, .int .i64 e27.v.sproto, .int .i64 e27.v.sport, .slice A46 e27.v.ends.length c47, .int .u32 e27.v.dip, .int .u32 e27.v.vip, .bool e27.v.up] 61) 15 (fun _ => by kernel_rfl) (fun g55 w56 hb59 hF57 hC58 => ?_)
  have ho60 := own_fr ho53 hF57 (by simp)
  have hl61 := logIn.fr hl52 hF57 (by simp)
  obtain ⟨v62, w63, hr64, ho65, hF66, hC67, hnil68, hsub69⟩ := app_run Try.prog hC58 0 (v := .slice A5 n5 c5) rfl 25 25 61 12 104 n5 1 1 (some ⟨g55, 0, none⟩) rfl ho60 [.int .i64 e27.v.node, .int .i64 e27.v.boot, .int .i64 e27.v.seq, .int .i64 e27.v.time, .int .i64 e27.v.kind, .int .u32 e27.v.svip, .int .i64 e27.v.sproto, .int .i64 e27.v.sport, .slice A46 e27.v.ends.length c47, .int .u32 e27.v.dip, .int .u32 e27.v.vip, .bool e27.v.up] rfl (srcOk.blk 1 (hC58.get 1 rfl)) rfl (by simp only [maxLen]; omega) (by omega)
  have ho73 := own_snoc (enc := cellsC) (ys := L5) (⟨e27.v, A46, c47⟩ : Cmd) ho65
  obtain ⟨A70, c71, rfl, hle72⟩ := own_form ho73
  refine WL.sem (Builtin.append_ #[25, 25] 25 #[.slice A5 n5 c5, .slice (some ⟨g55, 0, none⟩) 1 1]) 16 (.slice A70 (n5 + 1) c71) (by kernel_rfl) hr64 ?_
  have hl74 := logIn.fr hl61 hF66 (hC58.disj 1 0 rfl rfl (by decide))
  refine WLr 1 [(3, .slice A70 (n5 + 1) c71)] (fun _ => by kernel_rfl) ?_
  refine WLd rfl ?_
  refine QXb ?_
  refine QXn (hK24 _ _ ?_)
  refine WCg (WLr 1 [(17, .int .i64 (IntKind.i64.wrap ((i : Int) + 1)))] (fun _ => by kernel_rfl) ?_)
  refine WLt (show (.int .i64 (IntKind.i64.wrap ((i : Int) + 1)) : Value) = .int .i64 ((i : Int) + 1) from by rw [wrap_in_i64 ((i : Int) + 1) (by omega) (by omega)]) ?_
  refine WLr 1 [(8, .int .i64 ((i : Int) + 1))] (fun _ => by kernel_rfl) ?_
  refine WLd rfl ?_
  refine QXn ?_
  have hC75 := hC67.pick [] [0, 1] rfl rfl
  refine fun a_ ha_ => hK13 _ _ _ ?_ ⟨i + 1, A70, n5 + 1, c71, (R5 ++ blk (.slice A46 e27.v.ends.length c47)), (L5 ++ [(⟨e27.v, A46, c47⟩ : Cmd)]), rfl, rfl, hC75, ho73, hl74, by omega, by rw [vals_take he28, vals_snoc, hvv]⟩ a_ (ha_.weaken (sub_of ⟨rfl, rfl, rfl, rfl, rfl, trivial⟩))
  omega
 ·
  have t22 : (L.length : Int) ≤ (i : Int) := by have q_ := of_decide_eq_false t22b; omega
  refine WCf rfl ?_
  refine WC.exit ?_
  refine QXe ?_
  refine QXe ?_
  refine QX.block_hit ?_
  refine QXn (hK6 _ _ ?_)
  refine WCs (fun K76 hK77 => ?_)
  refine WCg (WLr 2 [(2, .slice A5 n5 c5), (18, .slice A5 n5 c5)] (fun _ => by kernel_rfl) (WLd rfl (QXn (hK77 _ _ ?_))))
  refine WC.ret ?_
  refine (hret _ _ _ rfl ?_).1
  clear hN hret hret' hK77 hK21 hK19 hK8 hK6 hK4 hK2
  have hie_ : i = L.length := by omega
  subst hie_
  rw [List.take_length] at hvv
  subst hcn5_
  exact ⟨A5, c5, L5, R5, rfl, hC17.fr, own_base hrow5 (newF_of hC17 0 rfl (fun _ h_ => nomatch h_) (fun _ h_ => nomatch h_)), hlog5, hvv, (fun x_ h_ => ⟨newF_of hC17 1 rfl (fun _ h_ => nomatch h_) (fun _ h_ => nomatch h_) x_ h_, hC17.ltF 1 rfl x_ h_⟩), hC17.disj 0 1 rfl rfl (by decide)⟩

theorem byteL_if (L : List CmdV) : byteL (if goodL L then bytesL L else []) := by
  split
  · exact bytesN_byte _
  · intro x_ hx_; cases hx_
theorem logR_stop {n : Int} {l : Nat} {bs : List Int} (h : ¬ (0 < n ∧ l ≤ 256)) : logR (257 - l) n bs = [] := by
  cases hk : 257 - l with
  | zero => rfl
  | succ k => unfold logR; rw [if_neg (by omega)]
theorem logR_step {n : Int} {l : Nat} {bs : List Int} (h : 0 < n) (hl : l ≤ 256) : logR (257 - l) n bs = (cmdR bs).1 :: logR (257 - (l + 1)) (n - 1) (cmdR bs).2 := by
  rw [show 257 - l = (257 - (l + 1)) + 1 from by omega]
  conv => lhs; unfold logR
  rw [if_pos h]
theorem totE_read {L : List Cmd} (h : ∀ m ∈ L, m.v.ends.length ≤ 65) (hl : L.length ≤ 257) : totE L ≤ 60000 := by
  have h2 : totE L ≤ 207 * L.length := by
    clear hl
    induction L with
    | nil => simp [totE]
    | cons a r ih =>
      have h1 := h a (by simp)
      have h3 := ih (fun m hm => h m (by simp [hm]))
      simp only [totE, List.map_cons, List.sum_cons, List.length_cons] at h3 ⊢
      omega
  omega
theorem logIn.addF {w w' : World} {R G : List Nat} {L : List Cmd} {v : CmdV} {A : Option Addr} {c T : Nat} (h : logIn w R L) (hf : Fr w w' G) (hd : ∀ x ∈ R, x ∉ G) (ho : w'.ownsRow w.heap.size T 3 (.slice A v.ends.length c) v.ends.length (v.ends.flatMap cellsE)) (hw : wfC v) (hl : v.ends.length ≤ 1099511627776) : logIn w' (R ++ blk (.slice A v.ends.length c)) (L ++ [⟨v, A, c⟩]) :=
  ((h.fr hf hd).mono (fun _ h_ => List.mem_append_left _ h_)).snoc (cmd_own ho hw hl) (fun _ h_ => List.mem_append_right _ h_)
theorem EqualB_n (A B : Option Addr) (n c n2 c2 : Nat) (xs ys : List Int) (w : World) (hA : Rd w 1 (Go.Tw.encI .u8) A xs) (hB : Rd w 1 (Go.Tw.encI .u8) B ys) (hn1 : xs.length = n) (hn2 : ys.length = n2) (h1 : byteL xs) (h2 : byteL ys) : Calls Try.prog 43 #[.slice A n c, .slice B n2 c2] w fun e w' => e = .returned (.bool (decide (xs = ys))) ∧ Fr w w' [] := by
 refine enterD (n := 10) Try.func43 rfl rfl (Nat.le_of_ble_eq_true rfl) ?_
 intro Q0 hN hret hret'
 have hC := Cx.start w
 refine WCs (fun K1 hK2 => ?_)
 refine WCg (WLr 1 [(4, .bool false)] (fun _ => by kernel_rfl) (WLd rfl (QXn (hK2 _ _ ?_))))
 refine WCs (fun K3 hK4 => ?_)
 refine WCg (WLr 1 [(5, .slice A n c)] (fun _ => by kernel_rfl) ?_)
 refine WL.sem (convert 22 9 (.slice A n c)) 6 (.string (strOfNums xs)) (by kernel_rfl) (run_bytes_str rfl rfl rfl (Rd.fr hA hC.fr) (by first | rfl | assumption | (simp; done))) ?_
 refine WLr 1 [(7, .slice B n2 c2)] (fun _ => by kernel_rfl) ?_
 refine WL.sem (convert 22 9 (.slice B n2 c2)) 8 (.string (strOfNums ys)) (by kernel_rfl) (run_bytes_str rfl rfl rfl (Rd.fr hB hC.fr) (by first | rfl | assumption | (simp; done))) ?_
 refine WLr 1 [(9, .bool ((strOfNums xs).toList == (strOfNums ys).toList))] (fun _ => by kernel_rfl) ?_
 refine WLt (show (.bool ((strOfNums xs).toList == (strOfNums ys).toList) : Value) = .bool (decide ((strOfNums xs) = (strOfNums ys))) from by rw [str_eql]) ?_
 refine WLr 1 [(4, .bool (decide ((strOfNums xs) = (strOfNums ys))))] (fun _ => by kernel_rfl) (WLd rfl (QXn (hK4 _ _ ?_)))
 refine WC.ret ?_
 refine (hret _ _ _ rfl ?_).1
 exact ⟨by show Ending.returned (.bool _) = _; rw [strOf_dec h1 h2], hC.fr⟩

set_option maxHeartbeats 2000000 in
theorem Read_ct (A : Option Addr) (c : Nat) (bs : List Int) (w : World) (hr : Rd w 1 (Go.Tw.encI .u8) A bs) (hb : byteL bs) (hlc : bs.length ≤ c) (hcl : c ≤ 9223372036854775807) : Calls Try.prog 12 #[.slice A bs.length c] w fun e w' => ∃ (A2 : Option Addr) (c2 : Nat) (L2 : List Cmd) (R2 : List Nat), e = .returned (.tuple #[.slice A2 L2.length c2, errV 35 (if readOk bs then 0 else 3)]) ∧ Fr w w' [] ∧ w'.ownsRow w.heap.size 61 12 (.slice A2 L2.length c2) L2.length (L2.flatMap cellsC) ∧ logIn w' R2 L2 ∧ vals L2 = (if readOk bs then readL bs else []) ∧ (∀ x ∈ R2, w.heap.size ≤ x ∧ x < w'.heap.size) ∧ (∀ x ∈ blk (.slice A2 L2.length c2), x ∉ R2) := by
 refine enterD (n := 43) Try.func12 rfl rfl (Nat.le_of_ble_eq_true rfl) ?_
 intro Q0 hN hret hret'
 have hC := Cx.start w
 refine WCs (fun K1 hK2 => ?_)
 refine WCg (WLr 2 [(3, .nilIface), (2, .slice none 0 0)] (fun _ => by kernel_rfl) (WLd rfl (QXn (hK2 _ _ ?_))))
 refine WCs (fun K3 hK4 => ?_)
 refine WCg (WLr 2 [(10, .agg #[.slice A bs.length c]), (9, .slice A bs.length c)] (fun _ => by kernel_rfl) ?_)
 refine WL.newM hC (fun b => .pointer (some ⟨b, 0, none⟩)) (.cells #[.slice A bs.length c] 99) 11 (fun _ => by kernel_rfl) (fun g5 w6 hb9 hF7 hC8 => ?_)
 have hsub0_ : 0 < bs.length → ∀ b_ off_, A = some ⟨b_, off_, none⟩ → b_ ≠ g5 := fun hn_ b_ off_ e_ h_ => by subst h_; exact absurd (rd_lt hr (Go.Tw.encI_len _) (by decide) hn_ e_) (Nat.not_lt.2 ((hC8.new_ge 0 rfl).resolve_left (fun h_ => nomatch h_)))
 refine WLr 1 [(4, .pointer (some ⟨g5, 0, none⟩))] (fun _ => by kernel_rfl) (WLd rfl (QXn (hK4 _ _ ?_)))
 refine WCs (fun K10 hK11 => ?_)
 refine WCg (WLr 1 [(5, .slice none 0 0)] (fun _ => by kernel_rfl) (WLd rfl (QXn (hK11 _ _ ?_))))
 refine WCs (fun K12 hK13 => ?_)
 refine WCs (fun K14 hK15 => ?_)
 refine WCg (WLr 1 [(12, .pointer (some ⟨g5, 0, none⟩))] (fun _ => by kernel_rfl) ?_)
 refine WLc rfl rfl rfl rfl rfl (by kernel_rfl) (num_ct g5 A c bs w6 (hC8.get 0 rfl) (Rd.fr ((fun _ h_ => h_) w hr) hC8.fr) hb hlc hcl) ?_
 rintro _ w18 ⟨A16, c17, rfl, hF19, hp20, hr21, hc22, hcc23, hs24⟩
 have hC25 := hC8.callM 0 rfl hF19 hp20
 refine ⟨_, rfl, ?_⟩
 have hrd26 : ∀ w0_, Rd w0_ 1 (Go.Tw.encI .u8) A bs → Rd w0_ 1 (Go.Tw.encI .u8) A16 (resR bs) := fun w0_ h_ => hr21 w0_ ((fun _ h_ => h_) w0_ h_)
 have hby27 := resR_byte hb
 have hcl28 := Nat.le_trans hcc23 hcl
 have hsub29 : 0 < (resR bs).length → ∀ b_ off_, A16 = some ⟨b_, off_, none⟩ → b_ ≠ g5 := fun hn_ b_ off_ h_ => (hs24 b_ off_ h_).elim (fun o2_ h2_ => hsub0_ (resR_pos hn_) b_ o2_ h2_)
 obtain ⟨bs30, hbs31⟩ : ∃ x_, resR bs = x_ := ⟨_, rfl⟩
 rw [hbs31] at hC25 hrd26 hby27 hc22 hsub29
 refine WLr 1 [(6, .int .i64 (numR bs))] (fun _ => by kernel_rfl) (WLd rfl (QXn (hK15 _ _ ?_)))
 refine WC.block ?_
 have hC32 := hC25.addNil
 have hC33 := hC32.addNil
 have hl34 : logIn w18 (blk (.slice none 0 0)) [] := logIn.nil _ _
 refine WC.loop (fun m_ E_ w_ => ∃ (nn : Int) (bs5 : List Int) (A9 : Option Addr) (c9 : Nat) (A5 : Option Addr) (n5 c5 : Nat) (R5 : List Nat) (L5 : List Cmd), m_ = 257 - L5.length ∧ E_ = [(0, .slice A bs.length c), (4, .pointer (some ⟨g5, 0, none⟩)), (5, .slice A5 n5 c5), (6, .int .i64 nn)] ∧ Cx w [] w_ [(g5, .cells #[.slice A9 bs5.length c9] 99)] [blk (.slice A5 n5 c5), R5] ∧ World.ownsRow w_ 0 61 12 (.slice A5 n5 c5) n5 (L5.flatMap cellsC) ∧ logIn w_ R5 L5 ∧ (L5.length ≤ 257 ∧ isI64 nn ∧ vals L5 ++ logR (257 - L5.length) nn bs5 = readL bs ∧ (∀ m ∈ L5, m.v.ends.length ≤ 65) ∧ (∀ w0_, Rd w0_ 1 (Go.Tw.encI .u8) A bs → Rd w0_ 1 (Go.Tw.encI .u8) A9 bs5) ∧ byteL bs5 ∧ bs5.length ≤ c9 ∧ c9 ≤ 9223372036854775807 ∧ (0 < bs5.length → ∀ b_ off_, A9 = some ⟨b_, off_, none⟩ → b_ ≠ g5))) ⟨_, _, ⟨numR bs, bs30, A16, c17, none, 0, 0, (blk (.slice none 0 0)), [], rfl, rfl, hC33, own_nil _ _ _ _, hl34, Nat.zero_le _, numR_i64 _, (by unfold readL; rw [hbs31]; rfl), (fun _ h_ => nomatch h_), hrd26, hby27, hc22, hcl28, hsub29⟩, sub_of ⟨rfl, rfl, rfl, rfl, trivial⟩⟩ (fun m38 E_ w39 K35 hK36 hI37 => ?_)
 obtain ⟨nn, bs5, A9, c9, A5, n5, c5, R5, L5, rfl, rfl, hC40, hrow5, hlog5, hll, hni, hin1, h65, hrd5, hby5, hcap5, hcl5, hsub5⟩ := hI37
 have hcn5_ := own_count cellsC_len (by decide) hrow5
 have hvl5_ := vals_len L5
 obtain ⟨hni0_, hni1_⟩ := hni
 refine WCs (fun K41 hK42 => ?_)
 refine WCs (fun K43 hK44 => ?_)
 refine WCg (WLr 3 [(16, .bool (decide (nn > 0))), (15, .bool (decide (nn > 0))), (14, .int .i64 nn)] (fun _ => by kernel_rfl) ?_)
 refine WLa 16 (decide (nn > 0)) rfl (fun t45b => ?_) (fun t45b => ?_)
 ·
  have t45 : (0 : Int) < nn := by have q_ := of_decide_eq_true t45b; omega
  refine WLr 4 [(20, .bool (decide ((n5 : Int) ≤ 256))), (19, .bool (decide ((n5 : Int) ≤ 256))), (18, .int .i64 (n5 : Int)), (17, .slice A5 n5 c5)] (fun _ => by kernel_rfl) (WLd rfl (QXn (hK44 _ _ ?_)))
  refine WCa 20 (decide ((n5 : Int) ≤ 256)) rfl (fun t46b => ?_) (fun t46b => ?_)
  ·
   have t46 : (n5 : Int) ≤ 256 := by have q_ := of_decide_eq_true t46b; omega
   refine WCt rfl ?_
   refine WC.skip ?_
   refine QXn (hK42 _ _ ?_)
   refine WCs (fun K47 hK48 => ?_)
   refine WC.block ?_
   refine WCg (WLr 2 [(24, .pointer (some ⟨g5, 0, none⟩)), (23, .slice A5 n5 c5)] (fun _ => by kernel_rfl) ?_)
   refine WLc rfl rfl rfl rfl rfl (by kernel_rfl) (command_ct g5 A9 c9 bs5 w39 (hC40.get 0 rfl) (Rd.fr (hrd5 w hr) hC40.fr) hby5 hcap5 hcl5 hsub5) ?_
   rintro _ w60 ⟨A57, c58, A49, c50, rfl, hF59, hp51, hr52, hby53, hcap54, hcl55, hsub56, ho63⟩
   have hC62 := hC40.callMF 0 1 rfl rfl (F' := R5 ++ blk (.slice A57 (cmdR bs5).1.ends.length c58)) (hF59.mono (by simp)) hp51 (fun x_ h_ => (List.mem_append.1 h_).imp id (own_ge ho63 x_)) (fun x_ h_ => (List.mem_append.1 h_).elim (fun h2_ => Nat.lt_of_lt_of_le (hC40.ltF 1 rfl x_ h2_) hF59.size) (own_lt ho63 x_))
   have hl64 := logIn.addF hlog5 hF59 (fun x_ hx_ h_ => hC40.notin 1 0 rfl rfl (List.mem_singleton.1 h_ ▸ hx_)) ho63 (cmdR_wf bs5) (Nat.le_trans (cmdR_len bs5) (by decide))
   refine ⟨_, rfl, ?_⟩
   have ho67 := own_fr hrow5 hF59 (hC40.apartM 0 0 rfl rfl)
   obtain ⟨bs65, hbs66⟩ : ∃ x_, (cmdR bs5).2 = x_ := ⟨_, rfl⟩
   rw [hbs66] at hC62 hr52 hby53 hcap54 hsub56
   have hrd68 : ∀ w0_, Rd w0_ 1 (Go.Tw.encI .u8) A bs → Rd w0_ 1 (Go.Tw.encI .u8) A49 bs65 := fun w0_ h_ => hr52 w0_ (hrd5 w0_ h_)
   refine WL.newM hC62 (fun b => .slice (some ⟨b, 0, none⟩) 1 1) (.cells #[.int .i64 (((cmdR bs5).1).node), .int .i64 (((cmdR bs5).1).boot), .int .i64 (((cmdR bs5).1).seq), .int .i64 (((cmdR bs5).1).time), .int .i64 (((cmdR bs5).1).kind), .int .u32 (((cmdR bs5).1).svip), .int .i64 (((cmdR bs5).1).sproto), .int .i64 (((cmdR bs5).1).sport), .slice A57 (((cmdR bs5).1).ends.length) c58, .int .u32 (((cmdR bs5).1).dip), .int .u32 (((cmdR bs5).1).vip), .bool (((cmdR bs5).1).up)] 61) 26 (fun _ => by kernel_rfl) (fun g69 w70 hb73 hF71 hC72 => ?_)
   have ho74 := own_fr ho67 hF71 (by simp)
   have hl75 := logIn.fr hl64 hF71 (by simp)
   obtain ⟨v76, w77, hr78, ho79, hF80, hC81, hnil82, hsub83⟩ := app_run Try.prog hC72 0 (v := .slice A5 n5 c5) rfl 25 25 61 12 104 n5 1 1 (some ⟨g69, 0, none⟩) rfl ho74 [.int .i64 (((cmdR bs5).1).node), .int .i64 (((cmdR bs5).1).boot), .int .i64 (((cmdR bs5).1).seq), .int .i64 (((cmdR bs5).1).time), .int .i64 (((cmdR bs5).1).kind), .int .u32 (((cmdR bs5).1).svip), .int .i64 (((cmdR bs5).1).sproto), .int .i64 (((cmdR bs5).1).sport), .slice A57 (((cmdR bs5).1).ends.length) c58, .int .u32 (((cmdR bs5).1).dip), .int .u32 (((cmdR bs5).1).vip), .bool (((cmdR bs5).1).up)] rfl (srcOk.blk 1 (hC72.get 1 rfl)) rfl (by simp only [maxLen]; omega) (by omega)
   have ho87 := own_snoc (enc := cellsC) (ys := L5) (⟨((cmdR bs5).1), A57, c58⟩ : Cmd) ho79
   obtain ⟨A84, c85, rfl, hle86⟩ := own_form ho87
   refine WL.sem (Builtin.append_ #[25, 25] 25 #[.slice A5 n5 c5, .slice (some ⟨g69, 0, none⟩) 1 1]) 27 (.slice A84 (n5 + 1) c85) (by kernel_rfl) hr78 ?_
   have hl88 := logIn.fr hl75 hF80 (hC72.disj 1 0 rfl rfl (by decide))
   refine WLr 1 [(5, .slice A84 (n5 + 1) c85)] (fun _ => by kernel_rfl) ?_
   refine WLd rfl ?_
   refine QXb ?_
   refine QXn (hK48 _ _ ?_)
   refine WCg (WLr 2 [(22, .int .i64 (IntKind.i64.wrap (nn - 1))), (21, .int .i64 nn)] (fun _ => by kernel_rfl) ?_)
   refine WLt (show (.int .i64 (IntKind.i64.wrap (nn - 1)) : Value) = .int .i64 (nn - 1) from by rw [wrap_in_i64 (nn - 1) (by omega) (by omega)]) ?_
   refine WLr 1 [(6, .int .i64 (nn - 1))] (fun _ => by kernel_rfl) ?_
   refine WLd rfl ?_
   refine QXn ?_
   have hC89 := hC81.pick [0] [0, 1] rfl rfl
   refine fun a_ ha_ => hK36 _ _ _ ?_ ⟨nn - 1, bs65, A49, c50, A84, n5 + 1, c85, (R5 ++ blk (.slice A57 (cmdR bs5).1.ends.length c58)), (L5 ++ [(⟨(cmdR bs5).1, A57, c58⟩ : Cmd)]), rfl, rfl, hC89, ho87, hl88, by simp only [List.length_append, List.length_cons, List.length_nil]; omega, ⟨by omega, by omega⟩, by rw [logR_step (by omega) (by omega), hbs66] at hin1; simp only [vals_snoc, List.length_append, List.length_cons, List.length_nil, Nat.zero_add, List.append_assoc, List.cons_append, List.nil_append]; exact hin1, (fun m_ h_ => (List.mem_append.1 h_).elim (h65 m_) (fun h2_ => by rw [List.mem_singleton] at h2_; subst h2_; exact cmdR_len _)), hrd68, hby53, hcap54, hcl55, hsub56⟩ a_ (ha_.weaken (sub_of ⟨rfl, rfl, rfl, rfl, trivial⟩))
   simp only [List.length_append, List.length_cons, List.length_nil]; omega
  ·
   have t46 : (256 : Int) < (n5 : Int) := by have q_ := of_decide_eq_false t46b; omega
   refine WCf rfl ?_
   have hst_ := logR_stop (n := nn) (l := L5.length) (bs := bs5) (by omega)
   rw [hst_, List.append_nil] at hin1
   have htot_ := totE_read h65 hll
   refine WC.exit ?_
   refine QXe ?_
   refine QXe ?_
   refine QX.block_hit ?_
   refine QXn (hK13 _ _ ?_)
   refine WCs (fun K90 hK91 => ?_)
   refine WCg (WLr 1 [(29, .slice A5 n5 c5)] (fun _ => by kernel_rfl) ?_)
   refine WLc rfl rfl rfl rfl rfl (by kernel_rfl) (Write_n A5 n5 c5 L5 w39 (own_rd hrow5 cellsC_len (by decide)) (own_count cellsC_len (by decide) hrow5) hlog5.at_ (Nat.le_trans htot_ (by decide))) ?_
   rintro _ w94 ⟨v_, rfl, hF93, ho92⟩
   have hC95 := hC40.callN hF93 (own_ge ho92) (own_lt ho92)
   obtain ⟨A96, c97, rfl, hle98⟩ := own_form ho92
   have ho100 := own_base (b' := 0) ho92 (fun _ _ => Nat.zero_le _)
   refine ⟨_, rfl, ?_⟩
   have ho101 := own_fr hrow5 hF93 (by simp)
   have hl102 := logIn.fr hlog5 hF93 (by simp)
   refine WLr 5 [(8, errV 35 (if goodL (vals L5) then 0 else 9)), (7, .slice A96 ((if goodL (vals L5) then bytesL (vals L5) else []).length) c97), (32, errV 35 (if goodL (vals L5) then 0 else 9)), (31, .slice A96 ((if goodL (vals L5) then bytesL (vals L5) else []).length) c97), (28, .tuple #[.slice A96 ((if goodL (vals L5) then bytesL (vals L5) else []).length) c97, errV 35 (if goodL (vals L5) then 0 else 9)])] (fun _ => by kernel_rfl) (WLd rfl (QXn (hK91 _ _ ?_)))
   refine WCs (fun K104 hK105 => ?_)
   refine WCs (fun K106 hK107 => ?_)
   refine WCg (WLr 1 [(33, errV 35 (if goodL (vals L5) then 0 else 9))] (fun _ => by kernel_rfl) ?_)
   have hr108 : ∀ w_, Sem.run Try.prog (do eqGuard .neq 27 (Operand.tmp 33) (Operand.const (.nilIface)) (errV 35 (if goodL (vals L5) then 0 else 9)) (.nilIface); binOp .neq 27 (errV 35 (if goodL (vals L5) then 0 else 9)) (.nilIface)) w_ = .ok (.bool (!(goodL (vals L5)))) w_ := fun w_ => (err_neq _ (if goodL (vals L5) then 0 else 9) (goodL (vals L5)) (by cases goodL (vals L5) <;> rfl) _)
   refine WL.sem (do eqGuard .neq 27 (Operand.tmp 33) (Operand.const (.nilIface)) (errV 35 (if goodL (vals L5) then 0 else 9)) (.nilIface); binOp .neq 27 (errV 35 (if goodL (vals L5) then 0 else 9)) (.nilIface)) 34 (.bool (!(goodL (vals L5)))) (by kernel_rfl) (hr108 _) ?_
   refine WLr 1 [(35, .bool (!(goodL (vals L5))))] (fun _ => by kernel_rfl) ?_
   refine WLa 35 (!(goodL (vals L5))) rfl (fun t109b => ?_) (fun t109b => ?_)
   ·
    have t109 : (goodL (vals L5)) = false := by first | (simpa only [Bool.not_eq_true', Bool.not_eq_false'] using t109b) | simpa using t109b
    refine WLr 5 [(40, .bool true), (39, undef), (38, undef), (37, undef), (36, undef)] (fun _ => by kernel_rfl) (WLd rfl (QXn (hK107 _ _ ?_)))
    refine WCt rfl ?_
    refine WCs (fun K110 hK111 => ?_)
    refine WCg (WLr 3 [(3, .iface 35 (.int .i64 3)), (2, .slice none 0 0), (41, .iface 35 (.int .i64 3))] (fun _ => by kernel_rfl) (WLd rfl (QXn (hK111 _ _ ?_))))
    refine WC.ret ?_
    refine QXr ?_
    refine (hret _ _ _ rfl ?_).1
    clear hN hret hret' hK111 hK107 hK105 hK91 hK44 hK42 hK15 hK13 hK11 hK4 hK2
    have hno_ : readOk bs = false := by unfold readOk; rw [← hin1]; have g_ : goodL (vals L5) = false := (by simpa using t109); rw [g_]; rfl
    rw [hno_]
    exact ⟨none, 0, [], [], rfl, hC95.fr, own_nil _ _ _ _, logIn.nil _ _, rfl, (fun _ h_ => nomatch h_), (fun _ _ h_ => nomatch h_)⟩
   ·
    have t109 : (goodL (vals L5)) = true := by first | (simpa only [Bool.not_eq_true', Bool.not_eq_false'] using t109b) | simpa using t109b
    refine WLr 2 [(37, .slice A bs.length c), (36, .slice A96 ((if goodL (vals L5) then bytesL (vals L5) else []).length) c97)] (fun _ => by kernel_rfl) ?_
    refine WLc rfl rfl rfl rfl rfl (by kernel_rfl) (EqualB_n A96 A ((if goodL (vals L5) then bytesL (vals L5) else []).length) c97 bs.length c (if goodL (vals L5) then bytesL (vals L5) else []) bs w94 (own_rd ho100 (Go.Tw.encI_len _) (by decide)) (Rd.fr hr hC95.fr) (own_count (Go.Tw.encI_len _) (by decide) ho100) rfl (byteL_if _) hb) ?_
    rintro _ w113 ⟨rfl, hF112⟩
    refine ⟨_, rfl, ?_⟩
    have hC114 := hC95.call hF112
    have ho115 := own_fr ho101 hF112 (by simp)
    have hl116 := logIn.fr hl102 hF112 (by simp)
    refine WLr 2 [(40, .bool (!(decide ((if goodL (vals L5) then bytesL (vals L5) else []) = bs)))), (39, .bool (!(decide ((if goodL (vals L5) then bytesL (vals L5) else []) = bs))))] (fun _ => by kernel_rfl) (WLd rfl (QXn (hK107 _ _ ?_)))
    refine WCa 40 (!(decide ((if goodL (vals L5) then bytesL (vals L5) else []) = bs))) rfl (fun t118b => ?_) (fun t118b => ?_)
    ·
     have t118 : (decide ((if goodL (vals L5) then bytesL (vals L5) else []) = bs)) = false := by first | (simpa only [Bool.not_eq_true', Bool.not_eq_false'] using t118b) | simpa using t118b
     refine WCt rfl ?_
     refine WCs (fun K119 hK120 => ?_)
     refine WCg (WLr 3 [(3, .iface 35 (.int .i64 3)), (2, .slice none 0 0), (41, .iface 35 (.int .i64 3))] (fun _ => by kernel_rfl) (WLd rfl (QXn (hK120 _ _ ?_))))
     refine WC.ret ?_
     refine QXr ?_
     refine (hret _ _ _ rfl ?_).1
     clear hN hret hret' hK120 hK107 hK105 hK91 hK44 hK42 hK15 hK13 hK11 hK4 hK2
     have hno_ : readOk bs = false := by unfold readOk; rw [← hin1]; have g_ : goodL (vals L5) = true := (by simpa using t109); have d_ := t118; simp only [g_, if_true] at d_; rw [g_]; simpa using d_
     rw [hno_]
     exact ⟨none, 0, [], [], rfl, hC114.fr, own_nil _ _ _ _, logIn.nil _ _, rfl, (fun _ h_ => nomatch h_), (fun _ _ h_ => nomatch h_)⟩
    ·
     have t118 : (decide ((if goodL (vals L5) then bytesL (vals L5) else []) = bs)) = true := by first | (simpa only [Bool.not_eq_true', Bool.not_eq_false'] using t118b) | simpa using t118b
     refine WCf rfl (WC.skip (QXn (hK105 _ _ ?_)))
     refine WCs (fun K121 hK122 => ?_)
     refine WCg (WLr 3 [(3, .nilIface), (2, .slice A5 n5 c5), (42, .slice A5 n5 c5)] (fun _ => by kernel_rfl) (WLd rfl (QXn (hK122 _ _ ?_))))
     refine WC.ret ?_
     refine (hret _ _ _ rfl ?_).1
     clear hN hret hret' hK122 hK107 hK105 hK91 hK44 hK42 hK15 hK13 hK11 hK4 hK2
     have hyes_ : readOk bs = true := by unfold readOk; rw [← hin1]; have g_ : goodL (vals L5) = true := (by simpa using t109); have d_ := t118; simp only [g_, if_true] at d_; rw [g_]; simpa using d_
     rw [hyes_]
     subst hcn5_
     exact ⟨A5, c5, L5, R5, rfl, hC114.fr, own_base ho115 (newF_of hC114 0 rfl (fun _ h_ => nomatch h_) (fun _ h_ => nomatch h_)), hl116, hin1, (fun x_ h_ => ⟨newF_of hC114 1 rfl (fun _ h_ => nomatch h_) (fun _ h_ => nomatch h_) x_ h_, hC114.ltF 1 rfl x_ h_⟩), hC114.disj 0 1 rfl rfl (by decide)⟩
 ·
  have t45 : nn ≤ 0 := by have q_ := of_decide_eq_false t45b; omega
  refine WLr 4 [(20, .bool false), (19, undef), (18, undef), (17, undef)] (fun _ => by kernel_rfl) (WLd rfl (QXn (hK44 _ _ ?_)))
  refine WCf rfl ?_
  have hst_ := logR_stop (n := nn) (l := L5.length) (bs := bs5) (by omega)
  rw [hst_, List.append_nil] at hin1
  have htot_ := totE_read h65 hll
  refine WC.exit ?_
  refine QXe ?_
  refine QXe ?_
  refine QX.block_hit ?_
  refine QXn (hK13 _ _ ?_)
  refine WCs (fun K123 hK124 => ?_)
  refine WCg (WLr 1 [(29, .slice A5 n5 c5)] (fun _ => by kernel_rfl) ?_)
  refine WLc rfl rfl rfl rfl rfl (by kernel_rfl) (Write_n A5 n5 c5 L5 w39 (own_rd hrow5 cellsC_len (by decide)) (own_count cellsC_len (by decide) hrow5) hlog5.at_ (Nat.le_trans htot_ (by decide))) ?_
  rintro _ w127 ⟨v_, rfl, hF126, ho125⟩
  have hC128 := hC40.callN hF126 (own_ge ho125) (own_lt ho125)
  obtain ⟨A129, c130, rfl, hle131⟩ := own_form ho125
  have ho133 := own_base (b' := 0) ho125 (fun _ _ => Nat.zero_le _)
  refine ⟨_, rfl, ?_⟩
  have ho134 := own_fr hrow5 hF126 (by simp)
  have hl135 := logIn.fr hlog5 hF126 (by simp)
  refine WLr 5 [(8, errV 35 (if goodL (vals L5) then 0 else 9)), (7, .slice A129 ((if goodL (vals L5) then bytesL (vals L5) else []).length) c130), (32, errV 35 (if goodL (vals L5) then 0 else 9)), (31, .slice A129 ((if goodL (vals L5) then bytesL (vals L5) else []).length) c130), (28, .tuple #[.slice A129 ((if goodL (vals L5) then bytesL (vals L5) else []).length) c130, errV 35 (if goodL (vals L5) then 0 else 9)])] (fun _ => by kernel_rfl) (WLd rfl (QXn (hK124 _ _ ?_)))
  refine WCs (fun K137 hK138 => ?_)
  refine WCs (fun K139 hK140 => ?_)
  refine WCg (WLr 1 [(33, errV 35 (if goodL (vals L5) then 0 else 9))] (fun _ => by kernel_rfl) ?_)
  have hr141 : ∀ w_, Sem.run Try.prog (do eqGuard .neq 27 (Operand.tmp 33) (Operand.const (.nilIface)) (errV 35 (if goodL (vals L5) then 0 else 9)) (.nilIface); binOp .neq 27 (errV 35 (if goodL (vals L5) then 0 else 9)) (.nilIface)) w_ = .ok (.bool (!(goodL (vals L5)))) w_ := fun w_ => (err_neq _ (if goodL (vals L5) then 0 else 9) (goodL (vals L5)) (by cases goodL (vals L5) <;> rfl) _)
  refine WL.sem (do eqGuard .neq 27 (Operand.tmp 33) (Operand.const (.nilIface)) (errV 35 (if goodL (vals L5) then 0 else 9)) (.nilIface); binOp .neq 27 (errV 35 (if goodL (vals L5) then 0 else 9)) (.nilIface)) 34 (.bool (!(goodL (vals L5)))) (by kernel_rfl) (hr141 _) ?_
  refine WLr 1 [(35, .bool (!(goodL (vals L5))))] (fun _ => by kernel_rfl) ?_
  refine WLa 35 (!(goodL (vals L5))) rfl (fun t142b => ?_) (fun t142b => ?_)
  ·
   have t142 : (goodL (vals L5)) = false := by first | (simpa only [Bool.not_eq_true', Bool.not_eq_false'] using t142b) | simpa using t142b
   refine WLr 5 [(40, .bool true), (39, undef), (38, undef), (37, undef), (36, undef)] (fun _ => by kernel_rfl) (WLd rfl (QXn (hK140 _ _ ?_)))
   refine WCt rfl ?_
   refine WCs (fun K143 hK144 => ?_)
   refine WCg (WLr 3 [(3, .iface 35 (.int .i64 3)), (2, .slice none 0 0), (41, .iface 35 (.int .i64 3))] (fun _ => by kernel_rfl) (WLd rfl (QXn (hK144 _ _ ?_))))
   refine WC.ret ?_
   refine QXr ?_
   refine (hret _ _ _ rfl ?_).1
   clear hN hret hret' hK144 hK140 hK138 hK124 hK44 hK42 hK15 hK13 hK11 hK4 hK2
   have hno_ : readOk bs = false := by unfold readOk; rw [← hin1]; have g_ : goodL (vals L5) = false := (by simpa using t142); rw [g_]; rfl
   rw [hno_]
   exact ⟨none, 0, [], [], rfl, hC128.fr, own_nil _ _ _ _, logIn.nil _ _, rfl, (fun _ h_ => nomatch h_), (fun _ _ h_ => nomatch h_)⟩
  ·
   have t142 : (goodL (vals L5)) = true := by first | (simpa only [Bool.not_eq_true', Bool.not_eq_false'] using t142b) | simpa using t142b
   refine WLr 2 [(37, .slice A bs.length c), (36, .slice A129 ((if goodL (vals L5) then bytesL (vals L5) else []).length) c130)] (fun _ => by kernel_rfl) ?_
   refine WLc rfl rfl rfl rfl rfl (by kernel_rfl) (EqualB_n A129 A ((if goodL (vals L5) then bytesL (vals L5) else []).length) c130 bs.length c (if goodL (vals L5) then bytesL (vals L5) else []) bs w127 (own_rd ho133 (Go.Tw.encI_len _) (by decide)) (Rd.fr hr hC128.fr) (own_count (Go.Tw.encI_len _) (by decide) ho133) rfl (byteL_if _) hb) ?_
   rintro _ w146 ⟨rfl, hF145⟩
   refine ⟨_, rfl, ?_⟩
   have hC147 := hC128.call hF145
   have ho148 := own_fr ho134 hF145 (by simp)
   have hl149 := logIn.fr hl135 hF145 (by simp)
   refine WLr 2 [(40, .bool (!(decide ((if goodL (vals L5) then bytesL (vals L5) else []) = bs)))), (39, .bool (!(decide ((if goodL (vals L5) then bytesL (vals L5) else []) = bs))))] (fun _ => by kernel_rfl) (WLd rfl (QXn (hK140 _ _ ?_)))
   refine WCa 40 (!(decide ((if goodL (vals L5) then bytesL (vals L5) else []) = bs))) rfl (fun t151b => ?_) (fun t151b => ?_)
   ·
    have t151 : (decide ((if goodL (vals L5) then bytesL (vals L5) else []) = bs)) = false := by first | (simpa only [Bool.not_eq_true', Bool.not_eq_false'] using t151b) | simpa using t151b
    refine WCt rfl ?_
    refine WCs (fun K152 hK153 => ?_)
    refine WCg (WLr 3 [(3, .iface 35 (.int .i64 3)), (2, .slice none 0 0), (41, .iface 35 (.int .i64 3))] (fun _ => by kernel_rfl) (WLd rfl (QXn (hK153 _ _ ?_))))
    refine WC.ret ?_
    refine QXr ?_
    refine (hret _ _ _ rfl ?_).1
    clear hN hret hret' hK153 hK140 hK138 hK124 hK44 hK42 hK15 hK13 hK11 hK4 hK2
    have hno_ : readOk bs = false := by unfold readOk; rw [← hin1]; have g_ : goodL (vals L5) = true := (by simpa using t142); have d_ := t151; simp only [g_, if_true] at d_; rw [g_]; simpa using d_
    rw [hno_]
    exact ⟨none, 0, [], [], rfl, hC147.fr, own_nil _ _ _ _, logIn.nil _ _, rfl, (fun _ h_ => nomatch h_), (fun _ _ h_ => nomatch h_)⟩
   ·
    have t151 : (decide ((if goodL (vals L5) then bytesL (vals L5) else []) = bs)) = true := by first | (simpa only [Bool.not_eq_true', Bool.not_eq_false'] using t151b) | simpa using t151b
    refine WCf rfl (WC.skip (QXn (hK138 _ _ ?_)))
    refine WCs (fun K154 hK155 => ?_)
    refine WCg (WLr 3 [(3, .nilIface), (2, .slice A5 n5 c5), (42, .slice A5 n5 c5)] (fun _ => by kernel_rfl) (WLd rfl (QXn (hK155 _ _ ?_))))
    refine WC.ret ?_
    refine (hret _ _ _ rfl ?_).1
    clear hN hret hret' hK155 hK140 hK138 hK124 hK44 hK42 hK15 hK13 hK11 hK4 hK2
    have hyes_ : readOk bs = true := by unfold readOk; rw [← hin1]; have g_ : goodL (vals L5) = true := (by simpa using t142); have d_ := t151; simp only [g_, if_true] at d_; rw [g_]; simpa using d_
    rw [hyes_]
    subst hcn5_
    exact ⟨A5, c5, L5, R5, rfl, hC147.fr, own_base ho148 (newF_of hC147 0 rfl (fun _ h_ => nomatch h_) (fun _ h_ => nomatch h_)), hl149, hin1, (fun x_ h_ => ⟨newF_of hC147 1 rfl (fun _ h_ => nomatch h_) (fun _ h_ => nomatch h_) x_ h_, hC147.ltF 1 rfl x_ h_⟩), hC147.disj 0 1 rfl rfl (by decide)⟩

end Go.Proofs.Ytjacpjdikhlcoaa
