/- Contracts of functions of the program, each proved by a walk through its code; conditions stand in the statements. -/
import Derived.Test.YtjacpjdikhlcoaaVtX14
namespace Go.Proofs.Ytjacpjdikhlcoaa
set_option linter.unusedSimpArgs false
set_option linter.unusedVariables false
set_option linter.unusedSectionVars false
open Go Go.RowKit Go.Tw
set_option linter.unusedVariables false
set_option maxRecDepth 20000
def endsP (T : TypeId) (w : World) (R : List Nat) (L : List Cmd) : Prop := ∀ m ∈ L, 0 < m.v.ends.length → ∃ b c, m.a = some ⟨b, 0, none⟩ ∧ b ∈ R ∧ w.heap[b]? = some (.cells c T (0, 0)) ∧ 3 * m.v.ends.length ≤ c.size
theorem endsP.fr {T : TypeId} {w w' : World} {R G : List Nat} {L : List Cmd} (h : endsP T w R L) (hf : Fr w w' G) (hd : ∀ x ∈ R, x ∉ G) : endsP T w' R L := fun m hm h0 => by
  obtain ⟨b, c, h1, h2, h3, h4⟩ := h m hm h0
  exact ⟨b, c, h1, h2, hf.has h3 (hd b h2), h4⟩
theorem endsP.mono {T : TypeId} {w : World} {R R' : List Nat} {L : List Cmd} (h : endsP T w R L) (hs : ∀ x ∈ R, x ∈ R') : endsP T w R' L := fun m hm h0 => by
  obtain ⟨b, c, h1, h2, h3, h4⟩ := h m hm h0
  exact ⟨b, c, h1, hs b h2, h3, h4⟩
theorem endsP.nil (T : TypeId) (w : World) (R : List Nat) : endsP T w R [] := fun _ h => (nomatch h)
theorem endsP.snoc {T : TypeId} {w : World} {R : List Nat} {L : List Cmd} {v : CmdV} {A : Option Addr} {c base : Nat} {X : List Value} (h : endsP T w R L) (ho : w.ownsRow base T 3 (.slice A v.ends.length c) v.ends.length X) (hs : ∀ x ∈ blk (.slice A v.ends.length c), x ∈ R) : endsP T w R (L ++ [⟨v, A, c⟩]) := fun m hm h0 => by
  rcases List.mem_append.1 hm with hm | hm
  · exact h m hm h0
  · rw [List.mem_singleton] at hm
    subst hm
    rcases ho.2 with ⟨_, e⟩ | ⟨g, cap, cur, e, _, hh, hc, _, hs2, _⟩
    · dsimp only at h0; omega
    · cases e
      exact ⟨g, cur, rfl, hs g (by simp [blk, Value.ownBlock]), hh, by dsimp only; omega⟩
theorem endsP.put {T : TypeId} {w : World} {R : List Nat} {L : List Cmd} (h : endsP T w R L) {b : Nat} {c0 c' : Array Value} (hb : w.heap[b]? = some (.cells c0 T (0, 0))) (hsz : c'.size = c0.size) : endsP T (putRow w b (.cells c' T (0, 0))) R L := fun m hm h0 => by
  obtain ⟨g, c, h1, h2, h3, h4⟩ := h m hm h0
  by_cases e : g = b
  · subst e
    rw [hb] at h3
    cases h3
    exact ⟨g, c', h1, h2, putRow_same (lt_of_heap hb), by omega⟩
  · exact ⟨g, c, h1, h2, (putRow_fr b _).has h3 (by simpa using e), h4⟩
theorem end_T : Try.prog.cellsOf 91 = 3 := by kernel_rfl
theorem end_I : (Try.prog.info? 91).isSome = true := by kernel_rfl
theorem store_end {T : TypeId} {w : World} {b j n : Nat} {c : Array Value} (h : w.heap[b]? = some (.cells c T (0, 0))) (hj : j < n) (hsz : 3 * n ≤ c.size) : ∃ c', c'.size = c.size ∧ (Instr.storeAt 91 (.pointer (some ⟨b, j * 3, none⟩)) (.agg #[.int .u32 0, .int .i64 0, .int .i64 0])).run Try.prog w = .ok () (putRow w b (.cells c' T (0, 0))) := by
  refine ⟨setMany c (j * 3) [.int .u32 0, .int .i64 0, .int .i64 0], setMany_size _ _ _, run_st h ?_⟩
  unfold st
  rw [end_T, end_I]
  have h1 : Nat.ble (j * 3 + 3) c.size = true := Nat.ble_eq_true_of_le (by omega)
  have h2 : freeB (0, 0) (j * 3) 3 = true := by unfold freeB; simp
  show (bif (Nat.beq 3 3 && Nat.ble (j * 3 + 3) c.size && true && freeB (0, 0) (j * 3) 3 && true) then _ else _) = _
  rw [h1, h2]; rfl
set_option maxHeartbeats 1000000 in
theorem RCopyP_ct (A : Option Addr) (c : Nat) (L : List Cmd) (w : World) (hr : Rd w 12 cellsC A L) (hL : ∀ m ∈ L, cmdAt w m) (hl : L.length ≤ 1099511627776) : Calls Try.prog 27 #[.slice A L.length c] w fun e w' => ∃ (A2 : Option Addr) (c2 : Nat) (L2 : List Cmd) (R2 : List Nat), e = .returned (.slice A2 L2.length c2) ∧ Fr w w' [] ∧ w'.ownsRow w.heap.size 61 12 (.slice A2 L2.length c2) L2.length (L2.flatMap cellsC) ∧ logIn w' R2 L2 ∧ vals L2 = vals L ∧ (∀ x ∈ R2, w.heap.size ≤ x ∧ x < w'.heap.size) ∧ (∀ x ∈ blk (.slice A2 L2.length c2), x ∉ R2) ∧ endsP 91 w' R2 L2 := by
 refine enterD (n := 28) Try.func27 rfl rfl (Nat.le_of_ble_eq_true rfl) ?_
 intro Q0 hN hret hret'
 have hC := Cx.start w
 refine WCs (fun K1 hK2 => ?_)
 refine WCg (WLr 1 [(2, .slice none 0 0)] (fun _ => by kernel_rfl) (WLd rfl (QXn (hK2 _ _ ?_))))
 refine WCs (fun K3 hK4 => ?_)
 refine WCg (WLr 1 [(3, .slice none 0 0)] (fun _ => by kernel_rfl) (WLd rfl (QXn (hK4 _ _ ?_))))
 refine WCs (fun K5 hK6 => ?_)
 refine WCs (fun K7 hK8 => ?_)
 refine WCg (WLr 1 [(4, .int .i64 0)] (fun _ => by kernel_rfl) (WLd rfl (QXn (hK8 _ _ ?_))))
 refine WC.block ?_
 have hC9 := hC.addNil
 have hC10 := hC9.addNil
 have hl11 : logIn w (blk (.slice none 0 0)) [] := logIn.nil _ _
 refine WC.loop (fun m_ E_ w_ => ∃ (i : Nat) (A5 : Option Addr) (n5 c5 : Nat) (R5 : List Nat) (L5 : List Cmd), m_ = L.length - i ∧ E_ = [(0, .slice A L.length c), (3, .slice A5 n5 c5), (4, .int .i64 (i : Int))] ∧ Cx w [] w_ [] [blk (.slice A5 n5 c5), R5] ∧ World.ownsRow w_ 0 61 12 (.slice A5 n5 c5) n5 (L5.flatMap cellsC) ∧ logIn w_ R5 L5 ∧ endsP 91 w_ R5 L5 ∧ (i ≤ L.length ∧ vals L5 = vals (L.take i))) ⟨_, _, ⟨0, none, 0, 0, (blk (.slice none 0 0)), [], rfl, rfl, hC10, own_nil _ _ _ _, hl11, endsP.nil _ _ _, Nat.zero_le _, rfl⟩, sub_of ⟨rfl, rfl, rfl, trivial⟩⟩ (fun m15 E_ w16 K12 hK13 hI14 => ?_)
 obtain ⟨i, A5, n5, c5, R5, L5, rfl, rfl, hC17, hrow5, hlog5, hlp5, hi, hvv⟩ := hI14
 have hcn5_ := own_count cellsC_len (by decide) hrow5
 have hvl5_ := vals_len L5
 have hvt_ := congrArg List.length hvv
 rw [vals_len, vals_len, List.length_take] at hvt_
 refine WCs (fun K18 hK19 => ?_)
 refine WCs (fun K20 hK21 => ?_)
 refine WCg (WLr 4 [(9, .bool (decide ((i : Int) < (L.length : Int)))), (8, .int .i64 (L.length : Int)), (7, .slice A L.length c), (6, .int .i64 (i : Int))] (fun _ => by kernel_rfl) (WLd rfl (QXn (hK21 _ _ ?_))))
 refine WCa 9 (decide ((i : Int) < (L.length : Int))) rfl (fun t22b => ?_) (fun t22b => ?_)
 ·
  have t22 : (i : Int) < (L.length : Int) := by have q_ := of_decide_eq_true t22b; omega
  refine WCt rfl ?_
  refine WC.skip ?_
  refine QXn (hK19 _ _ ?_)
  refine WCs (fun K23 hK24 => ?_)
  refine WC.block ?_
  refine WCs (fun K25 hK26 => ?_)
  refine WCg (WLr 2 [(13, .int .i64 (i : Int)), (12, .slice A L.length c)] (fun _ => by kernel_rfl) ?_)
  obtain ⟨e27, he28⟩ := get_some (xs := L) (i := i) (by omega)
  obtain ⟨b29, o31, hA30, hc32⟩ := hr.at_ _ _ he28
  have hc_e27 := hL _ (List.mem_of_getElem? he28)
  obtain ⟨hbs0_e27, hbs1_e27⟩ := hc_e27.wf.svip
  obtain ⟨hbd0_e27, hbd1_e27⟩ := hc_e27.wf.dip
  obtain ⟨hbv0_e27, hbv1_e27⟩ := hc_e27.wf.vip
  have hbl_e27 := hc_e27.lim
  refine WLi A L.length c 14 .i64 (i : Int) b29 o31 i 12 (by kernel_rfl) hA30 (by omega) (by omega) (o31 + i * 12) (by first | (simp; done) | omega) ?_
  refine WL.load 61 (.pointer (some ⟨b29, o31 + i * 12, none⟩)) (.agg #[.int .i64 e27.v.node, .int .i64 e27.v.boot, .int .i64 e27.v.seq, .int .i64 e27.v.time, .int .i64 e27.v.kind, .int .u32 e27.v.svip, .int .i64 e27.v.sproto, .int .i64 e27.v.sport, .slice e27.a e27.v.ends.length e27.c, .int .u32 e27.v.dip, .int .u32 e27.v.vip, .bool e27.v.up]) 15 (by kernel_rfl) (run_rdN (l := [.int .i64 e27.v.node, .int .i64 e27.v.boot, .int .i64 e27.v.seq, .int .i64 e27.v.time, .int .i64 e27.v.kind, .int .u32 e27.v.svip, .int .i64 e27.v.sproto, .int .i64 e27.v.sport, .slice e27.a e27.v.ends.length e27.c, .int .u32 e27.v.dip, .int .u32 e27.v.vip, .bool e27.v.up]) rfl rfl (fun j u hu => by have hq_ := hC17.fr.cell (hc32 j u hu) (by simp); simpa [Nat.add_assoc] using hq_)) ?_
  refine WL.newM hC17 (fun b => .pointer (some ⟨b, 0, none⟩)) (.cells #[.int .i64 0, .int .i64 0, .int .i64 0, .int .i64 0, .int .i64 0, .int .u32 0, .int .i64 0, .int .i64 0, .slice none 0 0, .int .u32 0, .int .u32 0, .bool false] 61) 5 (fun _ => by kernel_rfl) (fun g33 w34 hb37 hF35 hC36 => ?_)
  have ho38 := own_fr hrow5 hF35 (by simp)
  have hl39 := logIn.fr hlog5 hF35 (by simp)
  have hlp40 := endsP.fr hlp5 hF35 (by simp)
  refine WLs (c' := #[.int .i64 e27.v.node, .int .i64 e27.v.boot, .int .i64 e27.v.seq, .int .i64 e27.v.time, .int .i64 e27.v.kind, .int .u32 e27.v.svip, .int .i64 e27.v.sproto, .int .i64 e27.v.sport, .slice e27.a e27.v.ends.length e27.c, .int .u32 e27.v.dip, .int .u32 e27.v.vip, .bool e27.v.up]) hC36 0 61 g33 0 (.agg #[.int .i64 e27.v.node, .int .i64 e27.v.boot, .int .i64 e27.v.seq, .int .i64 e27.v.time, .int .i64 e27.v.kind, .int .u32 e27.v.svip, .int .i64 e27.v.sproto, .int .i64 e27.v.sport, .slice e27.a e27.v.ends.length e27.c, .int .u32 e27.v.dip, .int .u32 e27.v.vip, .bool e27.v.up]) (by kernel_rfl) rfl (by kernel_rfl) (fun w41 hF43 hC44 => ?_)
  have ho45 := own_fr ho38 hF43 (hC36.apartM 0 0 rfl rfl)
  have hl46 := logIn.fr hl39 hF43 (hC36.apartM 1 0 rfl rfl)
  have hlp47 := endsP.fr hlp40 hF43 (hC36.apartM 1 0 rfl rfl)
  refine WLd rfl (QXn (hK26 _ _ ?_))
  refine WCs (fun K48 hK49 => ?_)
  refine WCg ?_
  refine WL.newM hC44 (fun b => .slice (some ⟨b, 0, none⟩) 0 0) (.cells #[] 91) 16 (fun _ => by kernel_rfl) (fun g50 w51 hb54 hF52 hC53 => ?_)
  have ho55 := own_fr ho45 hF52 (by simp)
  have hl56 := logIn.fr hl46 hF52 (by simp)
  have hlp57 := endsP.fr hlp47 hF52 (by simp)
  refine WLr 2 [(18, .pointer (some ⟨g33, 8, none⟩)), (17, .pointer (some ⟨g33, 5, none⟩))] (fun _ => by kernel_rfl) ?_
  refine WL.load 57 (.pointer (some ⟨g33, 8, none⟩)) (.slice e27.a e27.v.ends.length e27.c) 19 (by kernel_rfl) (run_ld (hC53.get 0 rfl) rfl) ?_
  have ho59 : World.ownsRow w51 0 91 3 (.slice (some ⟨g50, 0, none⟩) 0 0) 0 [] := own_of_blk (Nat.zero_le _) (hC53.get 1 rfl) (Nat.le_refl _) (Nat.zero_le _) (by simp) rfl
  have hC58 := hC53.toF 1 rfl
  obtain ⟨v61, w62, hr63, ho64, hF65, hC66, hnil67, hsub68⟩ := app_run Try.prog hC58 2 (v := .slice (some ⟨g50, 0, none⟩) 0 0) rfl 57 57 91 3 24 0 e27.v.ends.length e27.c e27.a rfl ho59 (e27.v.ends.flatMap cellsE) (flat_len_n cellsE_len (by first | rfl | assumption | (simp; done) | (simp; omega))) (Rd.src_n (Rd.fr hc_e27.rd hC58.fr) cellsE_len (by decide) (by first | rfl | assumption | (simp; done) | (simp; omega))) (flat_one cellsE_one _) (by simp only [maxLen]; omega) (by omega)
  have ho72 := own_app (enc := cellsE) (ys := []) (zs := e27.v.ends) ho64
  obtain ⟨A69, c70, rfl, hle71⟩ := own_form ho72
  refine WL.sem (Builtin.append_ #[57, 57] 57 #[.slice (some ⟨g50, 0, none⟩) 0 0, .slice e27.a e27.v.ends.length e27.c]) 20 (.slice A69 (0 + e27.v.ends.length) c70) (by kernel_rfl) hr63 ?_
  have ho73 := own_fr ho55 hF65 (hC58.disj 0 2 rfl rfl (by decide))
  have hl74 := logIn.fr hl56 hF65 (hC58.disj 1 2 rfl rfl (by decide))
  have hlp75 := endsP.fr hlp57 hF65 (hC58.disj 1 2 rfl rfl (by decide))
  have ho76 : World.ownsRow w62 0 91 3 (.slice A69 e27.v.ends.length c70) e27.v.ends.length (e27.v.ends.flatMap cellsE) := by simpa using ho72
  refine WLt (show (.slice A69 (0 + e27.v.ends.length) c70 : Value) = .slice A69 e27.v.ends.length c70 from by rw [Nat.zero_add]) ?_
  have hl77 : logIn w62 (R5 ++ blk (.slice A69 e27.v.ends.length c70)) (L5 ++ [(⟨e27.v, A69, c70⟩ : Cmd)]) := (hl74.mono (fun _ h_ => List.mem_append_left _ h_)).snoc (cmd_own ho76 hc_e27.wf hc_e27.lim) (fun _ h_ => List.mem_append_right _ h_)
  have hlp79 : endsP 91 w62 (R5 ++ blk (.slice A69 e27.v.ends.length c70)) (L5 ++ [(⟨e27.v, A69, c70⟩ : Cmd)]) := (hlp75.mono (fun _ h_ => List.mem_append_left _ h_)).snoc ho76 (fun _ h_ => List.mem_append_right _ h_)
  have hC78 := Cx_join hC66 1 2 rfl rfl (by decide)
  simp only [Nat.zero_add] at hC78
  refine WLr 2 [(22, .pointer (some ⟨g33, 8, none⟩)), (21, .pointer (some ⟨g33, 5, none⟩))] (fun _ => by kernel_rfl) ?_
  refine WLs (c' := #[.int .i64 e27.v.node, .int .i64 e27.v.boot, .int .i64 e27.v.seq, .int .i64 e27.v.time, .int .i64 e27.v.kind, .int .u32 e27.v.svip, .int .i64 e27.v.sproto, .int .i64 e27.v.sport, .slice A69 e27.v.ends.length c70, .int .u32 e27.v.dip, .int .u32 e27.v.vip, .bool e27.v.up]) hC78 0 57 g33 8 (.slice A69 e27.v.ends.length c70) (by kernel_rfl) rfl (by kernel_rfl) (fun w80 hF82 hC83 => ?_)
  have ho84 := own_fr ho73 hF82 (hC78.apartM 0 0 rfl rfl)
  have hl85 := logIn.fr hl77 hF82 (hC78.apartM 1 0 rfl rfl)
  have hlp86 := endsP.fr hlp79 hF82 (hC78.apartM 1 0 rfl rfl)
  refine WLd rfl (QXn (hK49 _ _ ?_))
  refine WCg (WLr 1 [(23, .slice A5 n5 c5)] (fun _ => by kernel_rfl) ?_)
  refine WL.load 61 (.pointer (some ⟨g33, 0, none⟩)) (.agg #[.int .i64 e27.v.node, .int .i64 e27.v.boot, .int .i64 e27.v.seq, .int .i64 e27.v.time, .int .i64 e27.v.kind, .int .u32 e27.v.svip, .int .i64 e27.v.sproto, .int .i64 e27.v.sport, .slice A69 e27.v.ends.length c70, .int .u32 e27.v.dip, .int .u32 e27.v.vip, .bool e27.v.up]) 24 (by kernel_rfl) (run_ld (hC83.get 0 rfl) rfl) ?_
  refine WL.newM hC83 (fun b => .slice (some ⟨b, 0, none⟩) 1 1) (.cells #[.int .i64 e27.v.node, .int .i64 e27.v.boot, .int .i64 e27.v.seq, .int .i64 e27.v.time, .int .i64 e27.v.kind, .int .u32 e27.v.svip, .int .i64 e27.v.sproto, .int .i64 e27.v.sport, .slice A69 e27.v.ends.length c70, .int .u32 e27.v.dip, .int .u32 e27.v.vip, .bool e27.v.up] 61) 25 (fun _ => by kernel_rfl) (fun g87 w88 hb91 hF89 hC90 => ?_)
  have ho92 := own_fr ho84 hF89 (by simp)
  have hl93 := logIn.fr hl85 hF89 (by simp)
  have hlp94 := endsP.fr hlp86 hF89 (by simp)
  obtain ⟨v95, w96, hr97, ho98, hF99, hC100, hnil101, hsub102⟩ := app_run Try.prog hC90 0 (v := .slice A5 n5 c5) rfl 25 25 61 12 104 n5 1 1 (some ⟨g87, 0, none⟩) rfl ho92 [.int .i64 e27.v.node, .int .i64 e27.v.boot, .int .i64 e27.v.seq, .int .i64 e27.v.time, .int .i64 e27.v.kind, .int .u32 e27.v.svip, .int .i64 e27.v.sproto, .int .i64 e27.v.sport, .slice A69 e27.v.ends.length c70, .int .u32 e27.v.dip, .int .u32 e27.v.vip, .bool e27.v.up] rfl (srcOk.blk 1 (hC90.get 1 rfl)) rfl (by simp only [maxLen]; omega) (by omega)
  have ho106 := own_snoc (enc := cellsC) (ys := L5) (⟨e27.v, A69, c70⟩ : Cmd) ho98
  obtain ⟨A103, c104, rfl, hle105⟩ := own_form ho106
  refine WL.sem (Builtin.append_ #[25, 25] 25 #[.slice A5 n5 c5, .slice (some ⟨g87, 0, none⟩) 1 1]) 26 (.slice A103 (n5 + 1) c104) (by kernel_rfl) hr97 ?_
  have hl107 := logIn.fr hl93 hF99 (hC90.disj 1 0 rfl rfl (by decide))
  have hlp108 := endsP.fr hlp94 hF99 (hC90.disj 1 0 rfl rfl (by decide))
  refine WLr 1 [(3, .slice A103 (n5 + 1) c104)] (fun _ => by kernel_rfl) ?_
  refine WLd rfl ?_
  refine QXb ?_
  refine QXn (hK24 _ _ ?_)
  refine WCg (WLr 2 [(11, .int .i64 (IntKind.i64.wrap ((i : Int) + 1))), (10, .int .i64 (i : Int))] (fun _ => by kernel_rfl) ?_)
  refine WLt (show (.int .i64 (IntKind.i64.wrap ((i : Int) + 1)) : Value) = .int .i64 ((i : Int) + 1) from by rw [wrap_in_i64 ((i : Int) + 1) (by omega) (by omega)]) ?_
  refine WLr 1 [(4, .int .i64 ((i : Int) + 1))] (fun _ => by kernel_rfl) ?_
  refine WLd rfl ?_
  refine QXn ?_
  have hC109 := hC100.pick [] [0, 1] rfl rfl
  refine fun a_ ha_ => hK13 _ _ _ ?_ ⟨i + 1, A103, n5 + 1, c104, (R5 ++ blk (.slice A69 e27.v.ends.length c70)), (L5 ++ [(⟨e27.v, A69, c70⟩ : Cmd)]), rfl, rfl, hC109, ho106, hl107, hlp108, by omega, by rw [vals_take he28, vals_snoc, hvv]⟩ a_ (ha_.weaken (sub_of ⟨rfl, rfl, rfl, trivial⟩))
  omega
 ·
  have t22 : (L.length : Int) ≤ (i : Int) := by have q_ := of_decide_eq_false t22b; omega
  refine WCf rfl ?_
  refine WC.exit ?_
  refine QXe ?_
  refine QXe ?_
  refine QX.block_hit ?_
  refine QXn (hK6 _ _ ?_)
  refine WCs (fun K110 hK111 => ?_)
  refine WCg (WLr 2 [(2, .slice A5 n5 c5), (27, .slice A5 n5 c5)] (fun _ => by kernel_rfl) (WLd rfl (QXn (hK111 _ _ ?_))))
  refine WC.ret ?_
  refine (hret _ _ _ rfl ?_).1
  clear hN hret hret' hK111 hK21 hK19 hK8 hK6 hK4 hK2
  have hie_ : i = L.length := by omega
  subst hie_
  rw [List.take_length] at hvv
  subst hcn5_
  exact ⟨A5, c5, L5, R5, rfl, hC17.fr, own_base hrow5 (newF_of hC17 0 rfl (fun _ h_ => nomatch h_) (fun _ h_ => nomatch h_)), hlog5, hvv, (fun x_ h_ => ⟨newF_of hC17 1 rfl (fun _ h_ => nomatch h_) (fun _ h_ => nomatch h_) x_ h_, hC17.ltF 1 rfl x_ h_⟩), hC17.disj 0 1 rfl rfl (by decide), hlp5⟩

end Go.Proofs.Ytjacpjdikhlcoaa
