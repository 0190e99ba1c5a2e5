/- Contracts of functions of the program, each proved by a walk through its code; conditions stand in the statements. -/
import Derived.Test.YtelmklombehhkaaSbP13
namespace Go.Proofs.Ytelmklombehhkaa
set_option linter.unusedSimpArgs false
set_option linter.unusedVariables false
set_option linter.unusedSectionVars false
open Go Go.RowKit Go.Tw
set_option linter.unusedVariables false
set_option maxRecDepth 20000
theorem rput_link {N : Ct} (hn : (N.map (·.1)).Nodup) {ps ps2 : Mt} {size : Int} {key : ByteArray} {r : BRow} {er : Int} (hct : ct ps = listL N) (h : RPut ps size key r ps2 er) : er = putE N size key r.xs.length ∧ ct ps2 = listL (putS N size key r.xs) := by
  have hu : usedL (ct (outK ps key)) = usedL (delL N key) := by rw [ct_out, hct, used_listL_del hn]
  unfold putS
  cases h with
  | form h =>
    have e : putE N size key r.xs.length = 9 := putE_form h
    rw [e]; exact ⟨rfl, by rw [if_neg (by decide)]; exact hct⟩
  | full h1 h2 h3 =>
    have e : putE N size key r.xs.length = 5 := putE_full h1 h2 (by rw [← hu]; exact h3)
    rw [e]; exact ⟨rfl, by rw [if_neg (by decide)]; exact hct⟩
  | ok _ h1 h2 h3 h4 =>
    have e : putE N size key r.xs.length = 0 := putE_yes h1 h2 (by rw [← hu]; exact h3)
    rw [e]; exact ⟨rfl, by rw [if_pos rfl, h4, hct, listL_put hn]⟩
theorem fold_link (ks : List ByteArray) : ∀ {N : Ct}, (N.map (·.1)).Nodup → ks.foldl outK (listL N) = listL (ks.foldl delL N) := by
  induction ks with
  | nil => intro N _; rfl
  | cons k r ih => intro N hn; rw [List.foldl_cons, List.foldl_cons, listL_del hn]; exact ih (delL_keys _ _ hn)
theorem dropN_link {N : Ct} (hn : (N.map (·.1)).Nodup) (ks : List ByteArray) : dropN (listL N) ks = dropN N ks :=
  dropN_ext ks _ _ (fun k => by rw [listL_look hn]) (srt_nodup (listL_srt hn)) hn
theorem putE_num (N : Ct) (size : Int) (key : ByteArray) (n : Nat) : putE N size key n = putE N size key n := rfl
theorem take_ks13 {xs : List Int} {n : Nat} (hn : xs.length = n) (ys : List Int) : (xs ++ ys).take n = xs := by subst hn; simp
theorem rowAt_frE {w w' : World} {r : BRow} (h : rowAt w r) (hf : Fr w w' []) : rowAt w' r := ⟨Rd.fr h.rd hf, h.len, h.byt⟩
theorem rd_row {w : World} {r : BRow} (h : rowAt w r) (hne : r.xs ≠ []) {x : Nat} (hx : x ∈ rblk r) : x < w.heap.size := by
  obtain ⟨a, n, c, xs⟩ := r
  have h1 := mem_blk.1 hx
  cases a with
  | none => simp [Value.ownBlock] at h1
  | some ad =>
    obtain ⟨b, off, v⟩ := ad
    have hrd := h.rd
    cases hxs : xs with
    | nil => exact absurd hxs hne
    | cons y l =>
      dsimp only at hrd
      rw [hxs] at hrd
      obtain ⟨b', off', e1, e2⟩ := hrd.at_ 0 y rfl
      have e3 : b = b' := by
        simp at e1; exact e1.1
      have e4 : x = b := by simp [Value.ownBlock] at h1; exact h1.symm
      have := e2 0 _ rfl
      rw [e4, e3]
      unfold World.cell? at this
      cases hh : w.heap[b']? with
      | none => rw [hh] at this; simp at this
      | some ob => exact (Array.getElem?_eq_some_iff.1 hh).1
theorem Kept_n (A B : Option Addr) (n c c2 : Nat) (xs : List Int) (w : World) (hA1 : Rd w 1 (Go.Tw.encI .u8) A xs) (hA : Rd w 1 (Go.Tw.encI .u8) A (xs ++ [165, 90])) (hB : Rd w 1 (Go.Tw.encI .u8) B xs) (hn : xs.length = n) (hc : n + 2 ≤ c) (hlx : n ≤ 1099511627776) : Calls Try.prog 24 #[.slice A n c, .slice B n c2] w fun e w' => e = .returned (.bool true) ∧ Fr w w' [] := by subst hn; exact Kept_ct A B c c2 xs w hA1 hA hB hc hlx
theorem unl_link {N Y : Ct} {ps qs : Mt} (hn : (N.map (·.1)).Nodup) (hy : (Y.map (·.1)).Nodup) (h1 : ct ps = listL N) (h2 : ct qs = listL Y) : (unlA ps qs : Int) + (unlB ps qs : Int) = (unlN N Y : Int) := by
  have h := unl_AB ps qs
  rw [h1, h2] at h
  have e : unlN (listL N) (listL Y) = unlN N Y := by
    unfold unlN
    have g1 : (fun p : ByteArray × List Int => !decide (lookL (listL Y) p.1 = some p.2)) = fun p => !decide (lookL Y p.1 = some p.2) := by funext p; rw [listL_look hy]
    have g2 : (fun p : ByteArray × List Int => (lookL (listL N) p.1).isNone) = fun p => (lookL N p.1).isNone := by funext p; rw [listL_look hn]
    rw [g1, g2, ((listL_perm hn).filter _).length_eq, ((listL_perm hy).filter _).length_eq]
  omega
theorem ct_len (ps : Mt) : (ct ps).length = ps.length := by simp [ct]
theorem stAt_len2 {w : World} {F : List Nat} {p : Nat} {N Y : Ct} {size : Int} (h : stAt w F p N Y size) : Y.length ≤ 67108864 := by
  obtain ⟨b1, b2, m1, m2, _, h1, h2, rfl, rfl, _⟩ := h
  exact Nat.le_trans (len_used h2.keys) h2.used
theorem Drop_n (F : List Nat) (p : Nat) (N Y : Ct) (size : Int) (A : Option Addr) (n c : Nat) (ks : List ByteArray) (w : World) (ht : stAt w F p N Y size) (hks : Rd w 1 Go.Tw.encS A ks) (hn : ks.length = n) (hkl : n ≤ 9223372036854775807) (hAF : ∀ b off, A = some ⟨b, off, none⟩ → b ∉ F) : Calls Try.prog 25 #[.pointer (some ⟨p, 0, none⟩), .slice A n c] w fun e w' => ∃ F2, e = .returned (.int .i64 (dropN N ks : Int)) ∧ Fr w w' F ∧ stAt w' F2 p (ks.foldl delL N) Y size ∧ ∀ x ∈ F2, x ∈ F ∨ w.heap.size ≤ x := by subst hn; exact Drop_ct F p N Y size A c ks w ht hks hkl hAF
theorem RDrop_n (R : List Nat) (p : Nat) (ps qs : Mt) (size : Int) (A : Option Addr) (n c : Nat) (ks : List ByteArray) (w : World) (ht : docAt w R p ps qs size) (hu1 : usedL (ct ps) ≤ 67108864) (hl1 : ps.length ≤ 67108864) (hl2 : qs.length ≤ 67108864) (hks : Rd w 1 Go.Tw.encS A ks) (hn : ks.length = n) (hkl : n ≤ 9223372036854775807) (hAF : ∀ b off, A = some ⟨b, off, none⟩ → ks ≠ [] → b ∉ p :: R) (hnd : ((ct ps).map (·.1)).Nodup) : Calls Try.prog 26 #[.pointer (some ⟨p, 0, none⟩), .slice A n c] w fun e w' => ∃ (ps2 : Mt) (R2 : List Nat), e = .returned (.int .i64 (dropN (ct ps) ks : Int)) ∧ Fr w w' (p :: R) ∧ docAt w' R2 p ps2 qs size ∧ (∀ x ∈ R2, x ∈ R ∨ w.heap.size ≤ x) ∧ ct ps2 = ks.foldl outK (ct ps) := by subst hn; exact RDrop_ct R p ps qs size A c ks w ht hu1 hl1 hl2 hks hkl hAF hnd
set_option maxHeartbeats 4000000 in
theorem StablePlays_ct (A : Option Addr) (c : Nat) (ops : List StOp) (size : Int) (w : World) (hr : Rd w 5 cellO A ops) (hok : ∀ o ∈ ops, opAt w o) (hol : ops.length ≤ 9223372036854775807) (hbb : ∀ o ∈ ops, o.row.n ≤ 1048576 ∧ o.more.n ≤ 1048576) : Calls Try.prog 6 #[.int .i64 size, .slice A ops.length c] w fun e w' => e = .returned (.bool true) ∧ Fr w w' [] := by
  refine enterD (n := 169) Try.func6 rfl rfl (Nat.le_of_ble_eq_true rfl) ?_
  intro Q0 hN hret hret'
  have hC := Cx.start w
  refine WC.seq (fun K1 hK2 => ?_)
  refine WC.region ?_
  refine WL.runs 1 [(4, .bool false)] (fun _ => by kernel_rfl) ?_
  refine WL.done rfl ?_
  refine QX.then_normal (hK2 _ _ ?_)
  refine WC.seq (fun K3 hK4 => ?_)
  refine WC.seq (fun K5 hK6 => ?_)
  refine WC.region ?_
  refine WL.call rfl rfl rfl rfl rfl (by kernel_rfl) (alive_ct w) ?_
  rintro _ w8 ⟨rfl, hF7⟩
  refine ⟨_, rfl, ?_⟩
  have hC9 := hC.call hF7
  refine WL.runs 1 [(19, .bool false)] (fun _ => by kernel_rfl) ?_
  refine WL.done rfl ?_
  refine QX.then_normal (hK6 _ _ ?_)
  refine WC.cond_false rfl ?_
  refine WC.skip ?_
  refine QX.then_normal (hK4 _ _ ?_)
  refine WC.seq (fun K10 hK11 => ?_)
  refine WC.region ?_
  refine WL.runs 1 [(21, .int .i64 size)] (fun _ => by kernel_rfl) ?_
  rcases (show (size < 0 ∨ 67108864 < size) ∨ (0 ≤ size ∧ size ≤ 67108864) by omega) with hb12 | hb12
  · skip
    refine WL.call rfl rfl rfl rfl rfl (by kernel_rfl) (New_no size w8 hb12) ?_
    rintro _ w14 ⟨rfl, hF13⟩
    refine ⟨_, rfl, ?_⟩
    have hC15 := hC9.call hF13
    refine WL.runs 5 [(6, .iface 38 (.int .i64 4)), (5, .pointer none), (24, .iface 38 (.int .i64 4)), (23, .pointer none), (20, .tuple #[.pointer none, .iface 38 (.int .i64 4)])] (fun _ => by kernel_rfl) ?_
    refine WL.done rfl ?_
    refine QX.then_normal (hK11 _ _ ?_)
    refine WC.seq (fun K16 hK17 => ?_)
    refine WC.seq (fun K18 hK19 => ?_)
    refine WC.region ?_
    refine WL.runs 3 [(27, .bool (decide (size < 0))), (26, .bool (decide (size < 0))), (25, .int .i64 size)] (fun _ => by kernel_rfl) ?_
    refine WL.test_at 27 (decide (size < 0)) rfl (fun t20b => ?_) (fun t20b => ?_)
    · -- size < 0: true
      have t20 : size < 0 := by have q_ := of_decide_eq_true t20b; omega
      refine WL.runs 3 [(30, .bool true), (29, undef), (28, undef)] (fun _ => by kernel_rfl) ?_
      refine WL.done rfl ?_
      refine QX.then_normal (hK19 _ _ ?_)
      refine WC.cond_true rfl ?_
      refine WC.seq (fun K21 hK22 => ?_)
      refine WC.region ?_
      refine WL.runs 8 [(4, .bool true), (37, .bool true), (36, .bool true), (35, .iface 38 (.int .i64 4)), (34, .iface 38 (.int .i64 4)), (33, .bool true), (32, .bool true), (31, .pointer none)] (fun _ => by kernel_rfl) ?_
      refine WL.done rfl ?_
      refine QX.then_normal (hK22 _ _ ?_)
      refine WC.ret ?_
      refine QX.then_ret ?_
      refine (hret _ _ _ rfl ?_).1
      clear hN hret hret' hK22 hK19 hK17 hK11 hK6 hK4 hK2
      exact ⟨rfl, hC15.fr⟩
    · -- size < 0: false
      have t20 : (0 : Int) ≤ size := by have q_ := of_decide_eq_false t20b; omega
      refine WL.runs 3 [(30, .bool (decide (size > 67108864))), (29, .bool (decide (size > 67108864))), (28, .int .i64 size)] (fun _ => by kernel_rfl) ?_
      refine WL.done rfl ?_
      refine QX.then_normal (hK19 _ _ ?_)
      refine WC.test_at 30 (decide (size > 67108864)) rfl (fun t23b => ?_) (fun t23b => ?_)
      · -- size > 67108864: true
        have t23 : (67108864 : Int) < size := by have q_ := of_decide_eq_true t23b; omega
        refine WC.cond_true rfl ?_
        refine WC.seq (fun K24 hK25 => ?_)
        refine WC.region ?_
        refine WL.runs 8 [(4, .bool true), (37, .bool true), (36, .bool true), (35, .iface 38 (.int .i64 4)), (34, .iface 38 (.int .i64 4)), (33, .bool true), (32, .bool true), (31, .pointer none)] (fun _ => by kernel_rfl) ?_
        refine WL.done rfl ?_
        refine QX.then_normal (hK25 _ _ ?_)
        refine WC.ret ?_
        refine QX.then_ret ?_
        refine (hret _ _ _ rfl ?_).1
        clear hN hret hret' hK25 hK19 hK17 hK11 hK6 hK4 hK2
        exact ⟨rfl, hC15.fr⟩
      · -- size > 67108864: false
        have t23 : size ≤ 67108864 := by have q_ := of_decide_eq_false t23b; omega
        refine WC.cond_false rfl ?_
        refine WC.skip ?_
        refine QX.then_normal (hK17 _ _ ?_)
        refine WC.seq (fun K26 hK27 => ?_)
        refine WC.seq (fun K28 hK29 => ?_)
        refine WC.region ?_
        refine WL.runs 10 [(47, .bool true), (46, undef), (45, undef), (44, .bool true), (43, .bool true), (42, undef), (41, undef), (40, .bool true), (39, .bool true), (38, .iface 38 (.int .i64 4))] (fun _ => by kernel_rfl) ?_
        refine WL.done rfl ?_
        refine QX.then_normal (hK29 _ _ ?_)
        refine WC.cond_true rfl ?_
        refine WC.seq (fun K30 hK31 => ?_)
        refine WC.region ?_
        refine WL.runs 7 [(4, .bool false), (53, .bool false), (52, undef), (51, undef), (50, .bool false), (49, .bool false), (48, .iface 38 (.int .i64 4))] (fun _ => by kernel_rfl) ?_
        refine WL.done rfl ?_
        refine QX.then_normal (hK31 _ _ ?_)
        refine WC.ret ?_
        refine QX.then_ret ?_
        refine (hret _ _ _ rfl ?_).1
        clear hN hret hret' hK31 hK29 hK27 hK19 hK17 hK11 hK6 hK4 hK2
        exfalso; omega
  · obtain ⟨hs0_, hs1_⟩ := hb12
    refine WL.call rfl rfl rfl rfl rfl (by kernel_rfl) (New_ct size w8 (by omega) (by omega)) ?_
    rintro _ w35 ⟨p32, F33, rfl, hF34, hT37, hge38⟩
    have hC36 := hC9.callN hF34 hge38 (stAt_lt hT37)
    refine ⟨_, rfl, ?_⟩
    refine WL.runs 5 [(6, .nilIface), (5, .pointer (some ⟨p32, 0, none⟩)), (24, .nilIface), (23, .pointer (some ⟨p32, 0, none⟩)), (20, .tuple #[.pointer (some ⟨p32, 0, none⟩), .nilIface])] (fun _ => by kernel_rfl) ?_
    refine WL.done rfl ?_
    refine QX.then_normal (hK11 _ _ ?_)
    refine WC.seq (fun K40 hK41 => ?_)
    refine WC.seq (fun K42 hK43 => ?_)
    refine WC.region ?_
    refine WL.runs 3 [(27, .bool (decide (size < 0))), (26, .bool (decide (size < 0))), (25, .int .i64 size)] (fun _ => by kernel_rfl) ?_
    refine WL.know 27 (.bool (decide (size < 0))) (.bool false) rfl (congrArg Value.bool (by exact decide_eq_false (by omega))) ?_
    refine WL.runs 3 [(30, .bool (decide (size > 67108864))), (29, .bool (decide (size > 67108864))), (28, .int .i64 size)] (fun _ => by kernel_rfl) ?_
    refine WL.done rfl ?_
    refine QX.then_normal (hK43 _ _ ?_)
    refine WC.know 30 (.bool (decide (size > 67108864))) (.bool false) rfl (congrArg Value.bool (by exact decide_eq_false (by omega))) ?_
    refine WC.cond_false rfl ?_
    refine WC.skip ?_
    refine QX.then_normal (hK41 _ _ ?_)
    refine WC.seq (fun K44 hK45 => ?_)
    refine WC.seq (fun K46 hK47 => ?_)
    refine WC.region ?_
    refine WL.runs 8 [(45, .slice A ops.length c), (44, .bool false), (43, .bool false), (42, .bool false), (41, .pointer (some ⟨p32, 0, none⟩)), (40, .bool false), (39, .bool false), (38, .nilIface)] (fun _ => by kernel_rfl) ?_
    refine WL.call rfl rfl rfl rfl rfl (by kernel_rfl) (long_ct A c ops w35 (Rd.fr hr hC36.fr) (fun o_ h_ => (hok o_ h_).fr' hC36.fr) hol) ?_
    rintro _ w50 ⟨b48, rfl, hF49⟩
    refine ⟨_, rfl, ?_⟩
    have hC51 := hC36.call hF49
    have hf52 := stAt_fr hT37 hF49 (by simp)
    refine WL.runs 1 [(47, .bool b48)] (fun _ => by kernel_rfl) ?_
    refine WL.done rfl ?_
    refine QX.then_normal (hK47 _ _ ?_)
    refine WC.test_at 47 (b48) rfl (fun t53b => ?_) (fun t53b => ?_)
    · -- b48 = true: true
      refine WC.cond_true rfl ?_
      refine WC.seq (fun K54 hK55 => ?_)
      refine WC.region ?_
      refine WL.runs 7 [(4, .bool true), (53, .bool true), (52, .bool true), (51, .pointer (some ⟨p32, 0, none⟩)), (50, .bool true), (49, .bool true), (48, .nilIface)] (fun _ => by kernel_rfl) ?_
      refine WL.done rfl ?_
      refine QX.then_normal (hK55 _ _ ?_)
      refine WC.ret ?_
      refine QX.then_ret ?_
      refine (hret _ _ _ rfl ?_).1
      clear hN hret hret' hK55 hK47 hK45 hK43 hK41 hK11 hK6 hK4 hK2
      exact ⟨rfl, hC51.fr⟩
    · -- b48 = true: false
      refine WC.cond_false rfl ?_
      refine WC.skip ?_
      refine QX.then_normal (hK45 _ _ ?_)
      refine WC.seq (fun K56 hK57 => ?_)
      refine WC.region ?_
      refine WL.runs 2 [(55, .agg #[.slice none 0 0, .slice none 0 0, .int .i64 size]), (54, .int .i64 size)] (fun _ => by kernel_rfl) ?_
      refine WL.newM hC51 (fun b => .pointer (some ⟨b, 0, none⟩)) (.cells #[.slice none 0 0, .slice none 0 0, .int .i64 size] 52) 56 (fun _ => by kernel_rfl) (fun g58 w59 hb62 hF60 hC61 => ?_)
      have hf63 := stAt_fr hf52 hF60 (by simp)
      refine WL.runs 1 [(7, .pointer (some ⟨g58, 0, none⟩))] (fun _ => by kernel_rfl) ?_
      refine WL.done rfl ?_
      refine QX.then_normal (hK57 _ _ ?_)
      refine WC.seq (fun K64 hK65 => ?_)
      refine WC.seq (fun K66 hK67 => ?_)
      refine WC.region ?_
      refine WL.runs 3 [(59, .int .i64 0), (58, .int .i64 (ops.length : Int)), (57, .slice A ops.length c)] (fun _ => by kernel_rfl) ?_
      refine WL.done rfl ?_
      refine QX.then_normal (hK67 _ _ ?_)
      refine WC.block ?_
      have hC69 := hC61.addNil
      have hrw68 : rowsIn w59 (blk (.slice none 0 0)) [] := ⟨fun _ h_ => (nomatch h_), fun _ h_ => (nomatch h_)⟩
      have hdoc70 : docAt w59 (blk (.slice none 0 0)) g58 ([] : Mt) ([] : Mt) size := doc_mk (hC69.get 0 rfl) (own_nil w59 0 65 2) (own_nil w59 0 65 2) hrw68 hrw68 (fun _ h_ => h_) (fun _ h_ => h_) (hC69.notin 1 0 rfl rfl) (hC69.ltF 1 rfl)
      have hC71 := hC69.toF1 0 1 rfl rfl
      refine WC.loop (fun m_ E_ w_ => ∃ (i : Nat) (F5 : List Nat) (N5 Y5 : Ct) (R5 : List Nat) (ps5 qs5 : Mt), m_ = ops.length - i ∧ E_ = [(0, .int .i64 size), (1, .slice A ops.length c), (5, .pointer (some ⟨p32, 0, none⟩)), (6, .nilIface), (7, .pointer (some ⟨g58, 0, none⟩)), (57, .slice A ops.length c), (58, .int .i64 (ops.length : Int)), (59, .int .i64 (i : Int))] ∧ Cx w [] w_ [] [F5, (g58 :: R5)] ∧ stAt w_ F5 p32 N5 Y5 size ∧ docAt w_ R5 g58 ps5 qs5 size ∧ (i ≤ ops.length ∧ ct ps5 = listL N5 ∧ ct qs5 = listL Y5)) ⟨_, _, ⟨0, F33, [], [], (blk (.slice none 0 0)), [], [], rfl, rfl, hC71, hf63, hdoc70, Nat.zero_le _, (by simp [ct, listL, keysL]), (by simp [ct, listL, keysL])⟩, sub_of ⟨rfl, rfl, rfl, rfl, rfl, rfl, rfl, rfl, trivial⟩⟩ (fun m75 E_ w76 K72 hK73 hI74 => ?_)
      obtain ⟨i, F5, N5, Y5, R5, ps5, qs5, rfl, rfl, hC77, hT5, hD5, hi, hct5, hcq5⟩ := hI74
      obtain ⟨hnN_, hnY_⟩ := stAt_nodup hT5
      obtain ⟨hsu1_, hsu2_, hsu3_, hsu4_⟩ := stAt_used hT5
      have hsu5_ := stAt_len2 hT5
      have hu1_ : usedL (ct ps5) ≤ 67108864 := by rw [hct5, listL_used hnN_]; exact hsu1_
      have hl1_ : ps5.length ≤ 67108864 := by rw [← ct_len, hct5, listL_len]; exact hsu3_
      have hl2_ : qs5.length ≤ 67108864 := by rw [← ct_len, hcq5, listL_len]; exact hsu5_
      refine WC.seq (fun K78 hK79 => ?_)
      refine WC.region ?_
      refine WL.runs 1 [(60, .bool (decide ((i : Int) < (ops.length : Int))))] (fun _ => by kernel_rfl) ?_
      refine WL.done rfl ?_
      refine QX.then_normal (hK79 _ _ ?_)
      refine WC.seq (fun K80 hK81 => ?_)
      refine WC.test_at 60 (decide ((i : Int) < (ops.length : Int))) rfl (fun t82b => ?_) (fun t82b => ?_)
      · -- (i : Int) < (ops.length : Int): true
        have t82 : (i : Int) < (ops.length : Int) := by have q_ := of_decide_eq_true t82b; omega
        refine WC.cond_true rfl ?_
        refine WC.skip ?_
        refine QX.then_normal (hK81 _ _ ?_)
        refine WC.seq (fun K83 hK84 => ?_)
        refine WC.block ?_
        refine WC.seq (fun K85 hK86 => ?_)
        refine WC.region ?_
        obtain ⟨e87, he88⟩ := get_some (xs := ops) (i := i) (by omega)
        obtain ⟨b89, o91, hA90, hc92⟩ := hr.at_ _ _ he88
        have hop_e87 := hok _ (List.mem_of_getElem? he88)
        have hrl_e87 := hop_e87.row.len
        obtain ⟨hrn_e87, hmn_e87⟩ := hbb _ (List.mem_of_getElem? he88)
        have hml_e87 := hop_e87.mlen
        refine WL.index A ops.length c 61 .i64 (i : Int) b89 o91 i 5 (by kernel_rfl) hA90 (by omega) (by omega) (o91 + i * 5) (by first | (simp; done) | omega) ?_
        refine WL.load 54 (.pointer (some ⟨b89, o91 + i * 5, none⟩)) (.agg #[.int .i64 e87.kind, .string e87.key, .slice e87.more.a e87.more.n e87.more.c, .slice e87.row.a e87.row.n e87.row.c, .int .i64 e87.cut]) 62 (by kernel_rfl) (run_rdN (l := [.int .i64 e87.kind, .string e87.key, .slice e87.more.a e87.more.n e87.more.c, .slice e87.row.a e87.row.n e87.row.c, .int .i64 e87.cut]) rfl rfl (fun j u hu => by have hq_ := hC77.fr.cell (hc92 j u hu) (by simp); simpa [Nat.add_assoc] using hq_)) ?_
        refine WL.newM hC77 (fun b => .pointer (some ⟨b, 0, none⟩)) (.cells #[.int .i64 0, .string ⟨#[]⟩, .slice none 0 0, .slice none 0 0, .int .i64 0] 54) 9 (fun _ => by kernel_rfl) (fun g93 w94 hb97 hF95 hC96 => ?_)
        have hf98 := stAt_fr hT5 hF95 (by simp)
        have hd99 := docAt_fr hD5 hF95 (by simp)
        refine WL.storeM (c' := #[.int .i64 e87.kind, .string e87.key, .slice e87.more.a e87.more.n e87.more.c, .slice e87.row.a e87.row.n e87.row.c, .int .i64 e87.cut]) hC96 0 54 g93 0 (.agg #[.int .i64 e87.kind, .string e87.key, .slice e87.more.a e87.more.n e87.more.c, .slice e87.row.a e87.row.n e87.row.c, .int .i64 e87.cut]) (by kernel_rfl) rfl (by kernel_rfl) (fun w100 hF102 hC103 => ?_)
        have hf104 := stAt_fr hf98 hF102 (hC96.apartM 0 0 rfl rfl)
        have hd105 := docAt_fr hd99 hF102 (hC96.apartM 1 0 rfl rfl)
        refine WL.done rfl ?_
        refine QX.then_normal (hK86 _ _ ?_)
        refine WC.seq (fun K106 hK107 => ?_)
        refine WC.region ?_
        refine WL.runs 1 [(10, .bool false)] (fun _ => by kernel_rfl) ?_
        refine WL.done rfl ?_
        refine QX.then_normal (hK107 _ _ ?_)
        refine WC.seq (fun K108 hK109 => ?_)
        refine WC.seq (fun K110 hK111 => ?_)
        refine WC.region ?_
        refine WL.runs 1 [(63, .pointer (some ⟨g93, 0, none⟩))] (fun _ => by kernel_rfl) ?_
        refine WL.load 3 (.pointer (some ⟨g93, 0, none⟩)) (.int .i64 e87.kind) 64 (by kernel_rfl) (run_ld (hC103.get 0 rfl) rfl) ?_
        refine WL.done rfl ?_
        refine QX.then_normal (hK111 _ _ ?_)
        refine WC.block ?_
        refine WC.seq (fun K112 hK113 => ?_)
        refine WC.region ?_
        refine WL.runs 2 [(90, .bool (e87.kind == 0)), (91, .bool (e87.kind == 0))] (fun _ => by kernel_rfl) ?_
        refine WL.done rfl ?_
        refine QX.then_normal (hK113 _ _ ?_)
        refine WC.test_at 90 (e87.kind == 0) rfl (fun t114b => ?_) (fun t114b => ?_)
        · -- e87.kind = 0: true
          have t114 : e87.kind = 0 := by simpa using t114b
          refine WC.cond_true rfl ?_
          refine WC.seq (fun K115 hK116 => ?_)
          refine WC.region ?_
          refine WL.runs 1 [(92, .pointer (some ⟨g93, 3, none⟩))] (fun _ => by kernel_rfl) ?_
          refine WL.load 22 (.pointer (some ⟨g93, 3, none⟩)) (.slice e87.row.a e87.row.n e87.row.c) 93 (by kernel_rfl) (run_ld (hC103.get 0 rfl) rfl) ?_
          have hcp_ := Copy_ct e87.row.a e87.row.c e87.row.xs w100 (Rd.frE hop_e87.row.rd hC103.fr (fun _ b_ off_ e_ => by simp)) (by rw [hop_e87.row.len]; omega)
          rw [hop_e87.row.len] at hcp_
          refine WL.call rfl rfl rfl rfl rfl (by kernel_rfl) hcp_ ?_
          rintro _ w121 ⟨A117, c118, rfl, hF120, ho119⟩
          have hC122 := hC103.callN hF120 (own_ge ho119) (own_lt ho119)
          refine ⟨_, rfl, ?_⟩
          rw [blk_n A117 (e87.row.n + 2) c118 (e87.row.n) c118] at hC122
          have ho123 := own_base (b' := 0) ho119 (fun _ _ => Nat.zero_le _)
          have ho124 := own_takeE (m := e87.row.n) (Go.Tw.encI_len _) ho123 (by omega)
          have hle125 := own_le ho123
          rw [show List.take e87.row.n (e87.row.xs ++ [165, 90]) = e87.row.xs from take_ks13 hop_e87.row.len _] at ho124
          have hf126 := stAt_fr hf104 hF120 (by simp)
          have hd127 := docAt_fr hd105 hF120 (by simp)
          refine WL.runs 1 [(11, .slice A117 e87.row.n c118)] (fun _ => by kernel_rfl) ?_
          refine WL.done rfl ?_
          refine QX.then_normal (hK116 _ _ ?_)
          refine WC.seq (fun K128 hK129 => ?_)
          refine WC.region ?_
          refine WL.runs 1 [(95, .pointer (some ⟨g93, 4, none⟩))] (fun _ => by kernel_rfl) ?_
          refine WL.load 3 (.pointer (some ⟨g93, 4, none⟩)) (.int .i64 e87.cut) 96 (by kernel_rfl) (run_ld (hC122.get 0 rfl) rfl) ?_
          have hr130 : ∀ w_, Sem.run Try.prog (Builtin.max_ #[3, 3] 3 #[.int .i64 e87.cut, .int .i64 0]) w_ = .ok (.int .i64 (max e87.cut (0 : Int))) w_ := fun w_ => run_maxI
          refine WL.sem (Builtin.max_ #[3, 3] 3 #[.int .i64 e87.cut, .int .i64 0]) 97 (.int .i64 (max e87.cut (0 : Int))) (by kernel_rfl) (hr130 _) ?_
          refine WL.runs 2 [(99, .int .i64 (e87.row.n : Int)), (98, .slice A117 e87.row.n c118)] (fun _ => by kernel_rfl) ?_
          have hr131 : ∀ w_, Sem.run Try.prog (Builtin.min_ #[3, 3] 3 #[.int .i64 (max e87.cut (0 : Int)), .int .i64 (e87.row.n : Int)]) w_ = .ok (.int .i64 (min (max e87.cut (0 : Int)) (e87.row.n : Int))) w_ := fun w_ => run_minI
          refine WL.sem (Builtin.min_ #[3, 3] 3 #[.int .i64 (max e87.cut (0 : Int)), .int .i64 (e87.row.n : Int)]) 100 (.int .i64 (min (max e87.cut (0 : Int)) (e87.row.n : Int))) (by kernel_rfl) (hr131 _) ?_
          obtain ⟨kk, hkk_, hkl_⟩ : ∃ kk : Nat, min (max e87.cut (0 : Int)) (e87.row.n : Int) = (kk : Int) ∧ kk ≤ e87.row.n := ⟨(min (max e87.cut (0 : Int)) (e87.row.n : Int)).toNat, by omega, by omega⟩
          refine WL.recast (show (.int .i64 (min (max e87.cut (0 : Int)) (e87.row.n : Int)) : Value) = .int .i64 (kk : Int) from congrArg (Value.int .i64) hkk_) ?_
          refine WL.runs 1 [(12, .int .i64 (kk : Int))] (fun _ => by kernel_rfl) ?_
          refine WL.done rfl ?_
          refine QX.then_normal (hK129 _ _ ?_)
          refine WC.seq (fun K132 hK133 => ?_)
          refine WC.drawC hC122 (F5 ++ (g58 :: R5)) (by kernel_rfl) (fun w134 hF135 hC136 hS137 => ?_)
          have hf138 := stAt_fr hf126 hF135 (by simp)
          have hd139 := docAt_fr hd127 hF135 (by simp)
          have ho140 := own_fr ho124 hF135 (by simp)
          have ho141 := own_fr ho123 hF135 (by simp)
          refine WD.pure (NoPanic.then (NoPanic.block (NoPanic.then (NoPanic.block (NoPanic.then (NoPanic.then (NoPanic.block (NoPanic.then hN)))))))) 0 101 (.pointer (some ⟨p32, 0, none⟩)) (by kernel_rfl) (fun _ => by kernel_rfl) hS137 ?_
          refine WD.pure (NoPanic.then (NoPanic.block (NoPanic.then (NoPanic.block (NoPanic.then (NoPanic.then (NoPanic.block (NoPanic.then hN)))))))) 1 102 (.pointer (some ⟨g93, 1, none⟩)) (by kernel_rfl) (fun _ => by kernel_rfl) hS137 ?_
          refine WD.pure (NoPanic.then (NoPanic.block (NoPanic.then (NoPanic.block (NoPanic.then (NoPanic.then (NoPanic.block (NoPanic.then hN)))))))) 3 104 (.slice A117 e87.row.n c118) (by kernel_rfl) (fun _ => by kernel_rfl) hS137 ?_
          refine WD.pure (NoPanic.then (NoPanic.block (NoPanic.then (NoPanic.block (NoPanic.then (NoPanic.then (NoPanic.block (NoPanic.then hN)))))))) 4 105 (.int .i64 (kk : Int)) (by kernel_rfl) (fun _ => by kernel_rfl) hS137 ?_
          have hle_ := own_le ho140
          have hb142 : kk ≤ c118 := by omega
          refine WD.slc (NoPanic.then (NoPanic.block (NoPanic.then (NoPanic.block (NoPanic.then (NoPanic.then (NoPanic.block (NoPanic.then hN)))))))) 5 22 5 1 A117 A117 e87.row.n c118 0 kk kk c118 none (some (.int .i64 (kk : Int))) 106 (by kernel_rfl) (by kernel_rfl) (by kernel_rfl) bnd.no (bnd.yes (by omega)) (by omega) hb142 (slcAt_pre _ _ _) (by first | rfl | omega) (by first | rfl | omega) hS137 ?_
          have ho143 := own_takeE (m := kk) (Go.Tw.encI_len _) ho140 (by omega)
          refine WD.pure (NoPanic.then (NoPanic.block (NoPanic.then (NoPanic.block (NoPanic.then (NoPanic.then (NoPanic.block (NoPanic.then hN)))))))) 6 107 (.slice A117 e87.row.n c118) (by kernel_rfl) (fun _ => by kernel_rfl) hS137 ?_
          refine WD.pure (NoPanic.then (NoPanic.block (NoPanic.then (NoPanic.block (NoPanic.then (NoPanic.then (NoPanic.block (NoPanic.then hN)))))))) 7 108 (.int .i64 (kk : Int)) (by kernel_rfl) (fun _ => by kernel_rfl) hS137 ?_
          obtain ⟨A145, hA146⟩ : ∃ A_, slcAt A117 kk c118 1 = A_ := ⟨_, rfl⟩
          have hle_ := own_le ho140
          have hb147 : e87.row.n ≤ c118 := by omega
          refine WD.slc (NoPanic.then (NoPanic.block (NoPanic.then (NoPanic.block (NoPanic.then (NoPanic.then (NoPanic.block (NoPanic.then hN)))))))) 8 22 5 1 A117 A145 e87.row.n c118 kk e87.row.n (e87.row.n - kk) (c118 - kk) (some (.int .i64 (kk : Int))) none 109 (by kernel_rfl) (by kernel_rfl) (by kernel_rfl) (bnd.yes (by omega)) bnd.no (by omega) hb147 hA146 (by first | rfl | omega) (by first | rfl | omega) hS137 ?_
          refine WD.pure (NoPanic.then (NoPanic.block (NoPanic.then (NoPanic.block (NoPanic.then (NoPanic.then (NoPanic.block (NoPanic.then hN)))))))) 12 113 (.pointer (some ⟨g58, 0, none⟩)) (by kernel_rfl) (fun _ => by kernel_rfl) hS137 ?_
          refine WD.pure (NoPanic.then (NoPanic.block (NoPanic.then (NoPanic.block (NoPanic.then (NoPanic.then (NoPanic.block (NoPanic.then hN)))))))) 13 114 (.pointer (some ⟨g93, 1, none⟩)) (by kernel_rfl) (fun _ => by kernel_rfl) hS137 ?_
          refine WD.pure (NoPanic.then (NoPanic.block (NoPanic.then (NoPanic.block (NoPanic.then (NoPanic.then (NoPanic.block (NoPanic.then hN)))))))) 15 116 (.pointer (some ⟨g93, 3, none⟩)) (by kernel_rfl) (fun _ => by kernel_rfl) hS137 ?_
          refine WD.load (NoPanic.then (NoPanic.block (NoPanic.then (NoPanic.block (NoPanic.then (NoPanic.then (NoPanic.block (NoPanic.then hN)))))))) 2 9 (.pointer (some ⟨g93, 1, none⟩)) (.string e87.key) 103 (by kernel_rfl) (by kernel_rfl) (fun _ hS_ => run_ld (Fr.has hS_ (hC136.get 0 rfl) (fun h_ => (List.mem_append.1 h_).elim (hC136.notin 0 0 rfl rfl) (hC136.notin 1 0 rfl rfl))) rfl) hS137 ?_
          refine WD.load (NoPanic.then (NoPanic.block (NoPanic.then (NoPanic.block (NoPanic.then (NoPanic.then (NoPanic.block (NoPanic.then hN)))))))) 14 9 (.pointer (some ⟨g93, 1, none⟩)) (.string e87.key) 115 (by kernel_rfl) (by kernel_rfl) (fun _ hS_ => run_ld (Fr.has hS_ (hC136.get 0 rfl) (fun h_ => (List.mem_append.1 h_).elim (hC136.notin 0 0 rfl rfl) (hC136.notin 1 0 rfl rfl))) rfl) hS137 ?_
          refine WD.load (NoPanic.then (NoPanic.block (NoPanic.then (NoPanic.block (NoPanic.then (NoPanic.then (NoPanic.block (NoPanic.then hN)))))))) 16 22 (.pointer (some ⟨g93, 3, none⟩)) (.slice e87.row.a e87.row.n e87.row.c) 117 (by kernel_rfl) (by kernel_rfl) (fun _ hS_ => run_ld (Fr.has hS_ (hC136.get 0 rfl) (fun h_ => (List.mem_append.1 h_).elim (hC136.notin 0 0 rfl rfl) (hC136.notin 1 0 rfl rfl))) rfl) hS137 ?_
          refine WD.new 9 (fun b => .slice (some ⟨b, 0, none⟩) 2 2) (.cells #[.slice A117 kk c118, .slice A145 (e87.row.n - kk) (c118 - kk)] 22) (by kernel_rfl) rfl rfl rfl rfl rfl (fun _ => by kernel_rfl) (fun g148 w149 hb152 hl153 hF150 ho154 => ?_)
          have hC151 := hC136.callB hF150 hb152 ho154
          have hS155 := hS137.trans hF150 (by simp)
          refine ⟨hS155, ?_⟩
          have hf156 := stAt_fr hf138 hF150 (by simp)
          have hd157 := docAt_fr hd139 hF150 (by simp)
          have ho158 := own_fr ho140 hF150 (by simp)
          have ho159 := own_fr ho141 hF150 (by simp)
          have ho160 := own_fr ho143 hF150 (by simp)
          have hr161 : ∀ r_ ∈ ([(⟨A117, kk, c118, e87.row.xs.take kk⟩ : BRow), (⟨A145, e87.row.n - kk, c118 - kk, (e87.row.xs.take e87.row.n).drop kk⟩ : BRow)] : List BRow), rowAt w149 r_ := by
            intro r_ hr_; simp only [List.mem_cons, List.not_mem_nil, or_false] at hr_
            rcases hr_ with rfl | rfl
            · exact ⟨(own_rd ho160 (Go.Tw.encI_len _) (by decide)), (own_count (Go.Tw.encI_len _) (by decide) ho160), (fun x_ hx_ => hop_e87.row.byt x_ (List.mem_of_mem_take hx_))⟩
            · exact ⟨(Rd.slc (own_rd ho158 (Go.Tw.encI_len _) (by decide)) kk e87.row.n c118 hb147 hA146), (by first | rfl | assumption | (simp; done) | (simp; omega)), (fun x_ hx_ => hop_e87.row.byt x_ (List.mem_of_mem_take (List.mem_of_mem_drop hx_)))⟩
          refine WD.call 10 (by kernel_rfl) rfl rfl rfl rfl rfl (by kernel_rfl) (Put_any F5 p32 N5 Y5 size e87.key (some ⟨g148, 0, none⟩) 2 [(⟨A117, kk, c118, e87.row.xs.take kk⟩ : BRow), (⟨A145, e87.row.n - kk, c118 - kk, (e87.row.xs.take e87.row.n).drop kk⟩ : BRow)] e87.row.xs w149 hf156 (Rd.blk (hC151.get 1 rfl) cellB_len rfl) hr161 (by simp) (by rw [cat2]; rw [show List.take e87.row.n e87.row.xs = e87.row.xs from List.take_of_length_le (by rw [hop_e87.row.len]; exact Nat.le_refl _)]; exact List.take_append_drop _ _)) ?_
          rintro _ w163 ⟨F166, rfl, hF162, hT165, hsub167⟩
          have hT165' : stAt w163 F166 p32 (putS N5 size e87.key e87.row.xs) Y5 size := hT165
          have hC164 := hC151.callF 0 rfl hF162 hsub167 (stAt_lt hT165')
          have hge170 : ∀ x_ ∈ F5, x_ ∈ (F5 ++ (g58 :: R5)) ∨ w134.heap.size ≤ x_ := fun x_ hx_ => .inl (by simp [hx_])
          have hge169 : ∀ x_ ∈ F166, x_ ∈ (F5 ++ (g58 :: R5)) ∨ w134.heap.size ≤ x_ := fun x_ hx_ => (hsub167 x_ hx_).elim (hge170 x_) (fun h_ => .inr (Nat.le_trans hS155.size h_))
          have hS168 := hS155.trans hF162 hge170
          refine ⟨_, rfl, hS168, ?_⟩
          have hd171 := docAt_fr hd157 hF162 (hC151.disj 1 0 rfl rfl (by decide))
          have ho172 := own_fr ho158 hF162 (hC151.disj 2 0 rfl rfl (by decide))
          have ho173 := own_fr ho159 hF162 (blk_al (n1 := e87.row.n) (c1 := c118) (hC151.disj 2 0 rfl rfl (by decide)))
          have ho174 := own_fr ho160 hF162 (blk_al (n1 := e87.row.n) (c1 := c118) (hC151.disj 2 0 rfl rfl (by decide)))
          refine WD.call 11 (by kernel_rfl) rfl rfl rfl rfl rfl (by kernel_rfl) (Num_ct (putE N5 size e87.key e87.row.xs.length) w163) ?_
          rintro _ w176 ⟨rfl, hF175⟩
          have hS178 := hS168.trans hF175 (by simp)
          refine ⟨_, rfl, hS178, ?_⟩
          have hC177 := hC164.call hF175
          have hf179 := stAt_fr hT165' hF175 (by simp)
          have hd180 := docAt_fr hd171 hF175 (by simp)
          have ho181 := own_fr ho172 hF175 (by simp)
          have ho182 := own_fr ho173 hF175 (by simp)
          have ho183 := own_fr ho174 hF175 (by simp)
          refine WD.call 17 (by kernel_rfl) rfl rfl rfl rfl rfl (by kernel_rfl) (RPut_ct R5 g58 ps5 qs5 size e87.key e87.row w176 hd180 hu1_ hl1_ hl2_ (rowAt_frE hop_e87.row hC177.fr) (by omega) (fun hne_ x_ hx_ hm_ => absurd (rd_row hop_e87.row hne_ hx_) (Nat.not_lt.2 ((hC177.ownF _ (List.mem_of_getElem? (show _[1]? = some (g58 :: R5) from rfl)) x_ hm_).resolve_left (fun h_ => nomatch h_))))) ?_
          rintro _ w189 ⟨ps184, R185, er186, rfl, hF188, hT191, hs192, hr187⟩
          obtain ⟨her_, hct6_⟩ := rput_link hnN_ hct5 hr187
          subst her_
          have hC190 := hC177.callF 1 rfl hF188 (fun x_ hx_ => (List.mem_cons.1 hx_).elim (fun e_ => .inl (by rw [e_]; exact List.mem_cons_self)) (fun h_ => (hs192 x_ h_).imp (fun z_ => List.mem_cons_of_mem _ z_) id)) (docAt_lt hT191)
          have hS193 := hS178.trans hF188 (fun x_ hx_ => .inl (List.mem_append.2 (.inr hx_)))
          refine ⟨_, rfl, hS193, ?_⟩
          have hf194 := stAt_fr hf179 hF188 (hC177.disj 0 1 rfl rfl (by decide))
          have ho195 := own_fr ho181 hF188 (hC177.disj 2 1 rfl rfl (by decide))
          have ho196 := own_fr ho182 hF188 (blk_al (n1 := e87.row.n) (c1 := c118) (hC177.disj 2 1 rfl rfl (by decide)))
          have ho197 := own_fr ho183 hF188 (blk_al (n1 := e87.row.n) (c1 := c118) (hC177.disj 2 1 rfl rfl (by decide)))
          refine WD.pure (NoPanic.then (NoPanic.block (NoPanic.then (NoPanic.block (NoPanic.then (NoPanic.then (NoPanic.block (NoPanic.then hN)))))))) 18 119 (.bool ((putE N5 size e87.key e87.row.xs.length) == (putE N5 size e87.key e87.row.xs.length))) (by kernel_rfl) (fun _ => by kernel_rfl) hS193 ?_
          refine WD.pure (NoPanic.then (NoPanic.block (NoPanic.then (NoPanic.block (NoPanic.then (NoPanic.then (NoPanic.block (NoPanic.then hN)))))))) 19 120 (.bool ((putE N5 size e87.key e87.row.xs.length) == (putE N5 size e87.key e87.row.xs.length))) (by kernel_rfl) (fun _ => by kernel_rfl) hS193 ?_
          refine WD.know 120 (.bool ((putE N5 size e87.key e87.row.xs.length) == (putE N5 size e87.key e87.row.xs.length))) (.bool true) rfl (congrArg Value.bool (by simp)) ?_
          refine WD.pure (NoPanic.then (NoPanic.block (NoPanic.then (NoPanic.block (NoPanic.then (NoPanic.then (NoPanic.block (NoPanic.then hN)))))))) 20 121 (.slice A117 e87.row.n c118) (by kernel_rfl) (fun _ => by kernel_rfl) hS193 ?_
          refine WD.pure (NoPanic.then (NoPanic.block (NoPanic.then (NoPanic.block (NoPanic.then (NoPanic.then (NoPanic.block (NoPanic.then hN)))))))) 21 122 (.pointer (some ⟨g93, 3, none⟩)) (by kernel_rfl) (fun _ => by kernel_rfl) hS193 ?_
          refine WD.sem 22 (Instr.loadAt 22 (.pointer (some ⟨g93, 3, none⟩))) 123 (.slice e87.row.a e87.row.n e87.row.c) (by kernel_rfl) (by kernel_rfl) (run_ld (hC190.get 0 rfl) rfl) hS193 ?_
          have hle2_ := own_le ho196
          refine WD.call 23 (by kernel_rfl) rfl rfl rfl rfl rfl (by kernel_rfl) (Kept_n A117 e87.row.a e87.row.n c118 e87.row.c e87.row.xs w189 (own_rd ho195 (Go.Tw.encI_len _) (by decide)) (own_rd ho196 (Go.Tw.encI_len _) (by decide)) (Rd.frE hop_e87.row.rd hC190.fr (fun _ b_ off_ e_ => by simp)) hrl_e87 (by omega) (by omega)) ?_
          rintro _ w199 ⟨rfl, hF198⟩
          have hS201 := hS193.trans hF198 (by simp)
          refine ⟨_, rfl, hS201, ?_⟩
          have hC200 := hC190.call hF198
          have hf202 := stAt_fr hf194 hF198 (by simp)
          have hd203 := docAt_fr hT191 hF198 (by simp)
          have ho204 := own_fr ho195 hF198 (by simp)
          have ho205 := own_fr ho196 hF198 (by simp)
          have ho206 := own_fr ho197 hF198 (by simp)
          refine WD.pure (NoPanic.then (NoPanic.block (NoPanic.then (NoPanic.block (NoPanic.then (NoPanic.then (NoPanic.block (NoPanic.then hN)))))))) 24 125 (.bool true) (by kernel_rfl) (fun _ => by kernel_rfl) hS201 ?_
          refine WD.pure (NoPanic.then (NoPanic.block (NoPanic.then (NoPanic.block (NoPanic.then (NoPanic.then (NoPanic.block (NoPanic.then hN)))))))) 25 10 (.bool true) (by kernel_rfl) (fun _ => by kernel_rfl) hS201 ?_
          refine WD.done (by kernel_rfl) ?_
          refine QX.then_normal (hK133 _ _ ?_)
          refine WC.region ?_
          refine WL.runs 1 [(126, .slice A117 e87.row.n c118)] (fun _ => by kernel_rfl) ?_
          have hle_ := own_le ho204
          refine WL.call rfl rfl rfl rfl rfl (by kernel_rfl) (Over_ct A117 e87.row.n c118 e87.row.xs w199 ho204 (by omega)) ?_
          rintro _ w209 ⟨ys207, rfl, hF208, ho211, hyl212⟩
          refine ⟨_, rfl, ?_⟩
          have hC210 := hC200.callF 2 rfl hF208 (fun _ hx_ => .inl hx_) (own_lt ho211)
          have hf213 := stAt_fr hf202 hF208 (hC200.disj 0 2 rfl rfl (by decide))
          have hd214 := docAt_fr hd203 hF208 (hC200.disj 1 2 rfl rfl (by decide))
          refine WL.done rfl ?_
          refine QX.block_normal ?_
          refine QX.then_normal (hK109 _ _ ?_)
          refine WC.seq (fun K215 hK216 => ?_)
          refine WC.region ?_
          refine WL.runs 7 [(163, .pointer (some ⟨g58, 0, none⟩)), (162, .pointer (some ⟨g58, 0, none⟩)), (161, .pointer (some ⟨g58, 0, none⟩)), (160, .pointer (some ⟨p32, 0, none⟩)), (159, .bool false), (158, .bool false), (157, .bool true)] (fun _ => by kernel_rfl) ?_
          obtain ⟨A217, c218, A219, c220, hp221, ho222, ho223, hi224, hi225, hb226, hb227, hn228, hl229⟩ := hd214
          have hC230 := hC210.unF1 1 rfl hp221 hn228
          refine WL.load 50 (.pointer (some ⟨g58, 0, none⟩)) (.slice A217 ps184.length c218) 164 (by kernel_rfl) (run_ld (hC230.get 2 rfl) rfl) ?_
          refine WL.call rfl rfl rfl rfl rfl (by kernel_rfl) (same_ct F166 p32 (putS N5 size e87.key e87.row.xs) Y5 size A217 c218 ps184 R185 w209 hf213 (own_rd ho222 cellP_len (by decide)) hi224 hct6_) ?_
          rintro _ w232 ⟨rfl, hF231⟩
          refine ⟨_, rfl, ?_⟩
          have hC233 := hC230.call hF231
          have hf234 := stAt_fr hf213 hF231 (by simp)
          have ho235 := own_fr ho211 hF231 (by simp)
          have ho236 := own_fr ho222 hF231 (by simp)
          have ho237 := own_fr ho223 hF231 (by simp)
          have hf238 := rowsIn_fr hi224 hF231 (by simp)
          have hf239 := rowsIn_fr hi225 hF231 (by simp)
          refine WL.runs 2 [(167, .bool false), (166, .bool false)] (fun _ => by kernel_rfl) ?_
          refine WL.done rfl ?_
          refine QX.then_normal (hK216 _ _ ?_)
          refine WC.cond_false rfl ?_
          refine WC.skip ?_
          refine QX.block_normal ?_
          refine QX.then_normal (hK84 _ _ ?_)
          refine WC.region ?_
          refine WL.runs 1 [(168, .int .i64 (IntKind.i64.wrap ((i : Int) + 1)))] (fun _ => by kernel_rfl) ?_
          refine WL.recast (show (.int .i64 (IntKind.i64.wrap ((i : Int) + 1)) : Value) = .int .i64 ((i : Int) + 1) from by rw [wrap_in_i64 ((i : Int) + 1) (by omega) (by omega)]) ?_
          refine WL.runs 1 [(59, .int .i64 ((i : Int) + 1))] (fun _ => by kernel_rfl) ?_
          refine WL.done rfl ?_
          refine QX.then_normal ?_
          have hdoc240 : docAt w232 R185 g58 ps184 qs5 size := doc_mk (hC233.get 2 rfl) ho236 ho237 hf238 hf239 hb226 hb227 (hC233.notin 1 2 rfl rfl) (hC233.ltF 1 rfl)
          have hC241 := hC233.toF1 2 1 rfl rfl
          have hC242 := hC241.pick [] [0, 1] rfl rfl
          refine fun a_ ha_ => hK73 _ _ _ ?_ ⟨i + 1, F166, putS N5 size e87.key e87.row.xs, Y5, R185, ps184, qs5, rfl, rfl, hC242, hf234, hdoc240, by omega, hct6_, hcq5⟩ a_ (ha_.weaken (sub_of ⟨rfl, rfl, rfl, rfl, rfl, rfl, rfl, rfl, trivial⟩))
          omega
        · -- e87.kind = 0: false
          have t114 : ¬ (e87.kind = 0) := by simpa using t114b
          refine WC.cond_false rfl ?_
          refine WC.seq (fun K243 hK244 => ?_)
          refine WC.region ?_
          refine WL.runs 2 [(128, .bool (e87.kind == 1)), (129, .bool (e87.kind == 1))] (fun _ => by kernel_rfl) ?_
          refine WL.done rfl ?_
          refine QX.then_normal (hK244 _ _ ?_)
          refine WC.test_at 128 (e87.kind == 1) rfl (fun t245b => ?_) (fun t245b => ?_)
          · -- e87.kind = 1: true
            have t245 : e87.kind = 1 := by simpa using t245b
            refine WC.cond_true rfl ?_
            refine WC.seq (fun K246 hK247 => ?_)
            refine WC.region ?_
            refine WL.runs 1 [(130, .pointer (some ⟨g93, 1, none⟩))] (fun _ => by kernel_rfl) ?_
            refine WL.load 9 (.pointer (some ⟨g93, 1, none⟩)) (.string e87.key) 131 (by kernel_rfl) (run_ld (hC103.get 0 rfl) rfl) ?_
            refine WL.newM hC103 (fun b => .slice (some ⟨b, 0, none⟩) 1 1) (.cells #[.string e87.key] 9) 132 (fun _ => by kernel_rfl) (fun g248 w249 hb252 hF250 hC251 => ?_)
            have hf253 := stAt_fr hf104 hF250 (by simp)
            have hd254 := docAt_fr hd105 hF250 (by simp)
            refine WL.runs 1 [(133, .pointer (some ⟨g93, 2, none⟩))] (fun _ => by kernel_rfl) ?_
            refine WL.load 40 (.pointer (some ⟨g93, 2, none⟩)) (.slice e87.more.a e87.more.n e87.more.c) 134 (by kernel_rfl) (run_ld (hC251.get 0 rfl) rfl) ?_
            have ho256 : World.ownsRow w249 0 9 1 (.slice (some ⟨g248, 0, none⟩) 1 1) 1 (([e87.key] : List ByteArray).flatMap Go.Tw.encS) := own_of_blk (Nat.zero_le _) (hC251.get 1 rfl) (Nat.le_refl _) (by decide) (by rfl) rfl
            have hC255 := hC251.toF 1 rfl
            obtain ⟨v257, w258, hr259, ho260, hF261, hC262, hnil263, hsub264⟩ := app_run Try.prog hC255 2 (v := .slice (some ⟨g248, 0, none⟩) 1 1) rfl 40 40 9 1 16 1 e87.more.n e87.more.c e87.more.a rfl ho256 (e87.more.ks.flatMap Go.Tw.encS) (flat_len_n Go.Tw.encS_len (by first | rfl | assumption | (simp; done) | (simp; omega))) (Rd.src_n (Rd.fr hop_e87.more hC255.fr) Go.Tw.encS_len (by decide) (by first | rfl | assumption | (simp; done) | (simp; omega))) (flat_one Go.Tw.encS_one _) (by simp only [maxLen]; omega) (by omega)
            have ho268 := own_app (enc := Go.Tw.encS) (ys := [e87.key]) (zs := e87.more.ks) ho260
            obtain ⟨A265, c266, rfl, hle267⟩ := own_form ho268
            refine WL.sem (Builtin.append_ #[40, 40] 40 #[.slice (some ⟨g248, 0, none⟩) 1 1, .slice e87.more.a e87.more.n e87.more.c]) 135 (.slice A265 (1 + e87.more.n) c266) (by kernel_rfl) hr259 ?_
            have hf269 := stAt_fr hf253 hF261 (hC255.disj 0 2 rfl rfl (by decide))
            have hd270 := docAt_fr hd254 hF261 (hC255.disj 1 2 rfl rfl (by decide))
            refine WL.runs 1 [(13, .slice A265 (1 + e87.more.n) c266)] (fun _ => by kernel_rfl) ?_
            refine WL.done rfl ?_
            refine QX.then_normal (hK247 _ _ ?_)
            refine WC.region ?_
            refine WL.runs 2 [(137, .slice A265 (1 + e87.more.n) c266), (136, .pointer (some ⟨p32, 0, none⟩))] (fun _ => by kernel_rfl) ?_
            have hkl271 := own_count Go.Tw.encS_len (by decide) ho268
            refine WL.call rfl rfl rfl rfl rfl (by kernel_rfl) (Drop_n F5 p32 N5 Y5 size A265 (1 + e87.more.n) c266 ([e87.key] ++ e87.more.ks) w258 hf269 (own_rd ho268 Go.Tw.encS_len (by decide)) hkl271 (by omega) (fun b_ off_ e_ => hC262.disj 2 0 rfl rfl (by decide) b_ (blk_in e_))) ?_
            rintro _ w273 ⟨F276, rfl, hF272, hT275, hsub277⟩
            have hT275' : stAt w273 F276 p32 (([e87.key] ++ e87.more.ks).foldl delL N5) Y5 size := hT275
            have hC274 := hC262.callF 0 rfl hF272 hsub277 (stAt_lt hT275')
            refine ⟨_, rfl, ?_⟩
            have hd278 := docAt_fr hd270 hF272 (hC262.disj 1 0 rfl rfl (by decide))
            have ho279 := own_fr ho268 hF272 (hC262.disj 2 0 rfl rfl (by decide))
            refine WL.runs 2 [(140, .slice A265 (1 + e87.more.n) c266), (139, .pointer (some ⟨g58, 0, none⟩))] (fun _ => by kernel_rfl) ?_
            refine WL.call rfl rfl rfl rfl rfl (by kernel_rfl) (RDrop_n R5 g58 ps5 qs5 size A265 (1 + e87.more.n) c266 ([e87.key] ++ e87.more.ks) w273 hd278 hu1_ hl1_ hl2_ (own_rd ho279 Go.Tw.encS_len (by decide)) (own_count Go.Tw.encS_len (by decide) ho279) (by omega) (fun b_ off_ e_ _ => hC274.disj 2 1 rfl rfl (by decide) b_ (blk_in e_)) (by rw [hct5]; exact srt_nodup (listL_srt hnN_))) ?_
            rintro _ w284 ⟨ps280, R281, rfl, hF283, hT286, hs287, hfo282⟩
            have hct6_ : ct ps280 = listL (([e87.key] ++ e87.more.ks).foldl delL N5) := by rw [hfo282, hct5]; exact fold_link _ hnN_
            have hC285 := hC274.callF 1 rfl hF283 (fun x_ hx_ => (List.mem_cons.1 hx_).elim (fun e_ => .inl (by rw [e_]; exact List.mem_cons_self)) (fun h_ => (hs287 x_ h_).imp (fun z_ => List.mem_cons_of_mem _ z_) id)) (docAt_lt hT286)
            refine ⟨_, rfl, ?_⟩
            have hf288 := stAt_fr hT275' hF283 (hC274.disj 0 1 rfl rfl (by decide))
            have ho289 := own_fr ho279 hF283 (hC274.disj 2 1 rfl rfl (by decide))
            refine WL.runs 2 [(10, .bool ((dropN N5 ([e87.key] ++ e87.more.ks) : Int) == (dropN (ct ps5) ([e87.key] ++ e87.more.ks) : Int))), (142, .bool ((dropN N5 ([e87.key] ++ e87.more.ks) : Int) == (dropN (ct ps5) ([e87.key] ++ e87.more.ks) : Int)))] (fun _ => by kernel_rfl) ?_
            refine WL.done rfl ?_
            refine QX.block_normal ?_
            refine QX.then_normal (hK109 _ _ ?_)
            refine WC.seq (fun K290 hK291 => ?_)
            refine WC.region ?_
            refine WL.runs 3 [(159, .bool (!((dropN N5 ([e87.key] ++ e87.more.ks) : Int) == (dropN (ct ps5) ([e87.key] ++ e87.more.ks) : Int)))), (158, .bool (!((dropN N5 ([e87.key] ++ e87.more.ks) : Int) == (dropN (ct ps5) ([e87.key] ++ e87.more.ks) : Int)))), (157, .bool ((dropN N5 ([e87.key] ++ e87.more.ks) : Int) == (dropN (ct ps5) ([e87.key] ++ e87.more.ks) : Int)))] (fun _ => by kernel_rfl) ?_
            refine WL.know 159 (.bool (!((dropN N5 ([e87.key] ++ e87.more.ks) : Int) == (dropN (ct ps5) ([e87.key] ++ e87.more.ks) : Int)))) (.bool false) rfl (congrArg Value.bool (by simp [hct5, dropN_link hnN_])) ?_
            refine WL.runs 4 [(163, .pointer (some ⟨g58, 0, none⟩)), (162, .pointer (some ⟨g58, 0, none⟩)), (161, .pointer (some ⟨g58, 0, none⟩)), (160, .pointer (some ⟨p32, 0, none⟩))] (fun _ => by kernel_rfl) ?_
            obtain ⟨A292, c293, A294, c295, hp296, ho297, ho298, hi299, hi300, hb301, hb302, hn303, hl304⟩ := hT286
            have hC305 := hC285.unF1 1 rfl hp296 hn303
            refine WL.load 50 (.pointer (some ⟨g58, 0, none⟩)) (.slice A292 ps280.length c293) 164 (by kernel_rfl) (run_ld (hC305.get 1 rfl) rfl) ?_
            refine WL.call rfl rfl rfl rfl rfl (by kernel_rfl) (same_ct F276 p32 (([e87.key] ++ e87.more.ks).foldl delL N5) Y5 size A292 c293 ps280 R281 w284 hf288 (own_rd ho297 cellP_len (by decide)) hi299 hct6_) ?_
            rintro _ w307 ⟨rfl, hF306⟩
            refine ⟨_, rfl, ?_⟩
            have hC308 := hC305.call hF306
            have hf309 := stAt_fr hf288 hF306 (by simp)
            have ho310 := own_fr ho289 hF306 (by simp)
            have ho311 := own_fr ho297 hF306 (by simp)
            have ho312 := own_fr ho298 hF306 (by simp)
            have hf313 := rowsIn_fr hi299 hF306 (by simp)
            have hf314 := rowsIn_fr hi300 hF306 (by simp)
            refine WL.runs 2 [(167, .bool false), (166, .bool false)] (fun _ => by kernel_rfl) ?_
            refine WL.done rfl ?_
            refine QX.then_normal (hK291 _ _ ?_)
            refine WC.cond_false rfl ?_
            refine WC.skip ?_
            refine QX.block_normal ?_
            refine QX.then_normal (hK84 _ _ ?_)
            refine WC.region ?_
            refine WL.runs 1 [(168, .int .i64 (IntKind.i64.wrap ((i : Int) + 1)))] (fun _ => by kernel_rfl) ?_
            refine WL.recast (show (.int .i64 (IntKind.i64.wrap ((i : Int) + 1)) : Value) = .int .i64 ((i : Int) + 1) from by rw [wrap_in_i64 ((i : Int) + 1) (by omega) (by omega)]) ?_
            refine WL.runs 1 [(59, .int .i64 ((i : Int) + 1))] (fun _ => by kernel_rfl) ?_
            refine WL.done rfl ?_
            refine QX.then_normal ?_
            have hdoc315 : docAt w307 R281 g58 ps280 qs5 size := doc_mk (hC308.get 1 rfl) ho311 ho312 hf313 hf314 hb301 hb302 (hC308.notin 1 1 rfl rfl) (hC308.ltF 1 rfl)
            have hC316 := hC308.toF1 1 1 rfl rfl
            have hC317 := hC316.pick [] [0, 1] rfl rfl
            refine fun a_ ha_ => hK73 _ _ _ ?_ ⟨i + 1, F276, ([e87.key] ++ e87.more.ks).foldl delL N5, Y5, R281, ps280, qs5, rfl, rfl, hC317, hf309, hdoc315, by omega, hct6_, hcq5⟩ a_ (ha_.weaken (sub_of ⟨rfl, rfl, rfl, rfl, rfl, rfl, rfl, rfl, trivial⟩))
            omega
          · -- e87.kind = 1: false
            have t245 : ¬ (e87.kind = 1) := by simpa using t245b
            refine WC.cond_false rfl ?_
            refine WC.seq (fun K318 hK319 => ?_)
            refine WC.region ?_
            refine WL.runs 2 [(143, .bool (e87.kind == 2)), (144, .bool (e87.kind == 2))] (fun _ => by kernel_rfl) ?_
            refine WL.done rfl ?_
            refine QX.then_normal (hK319 _ _ ?_)
            refine WC.test_at 143 (e87.kind == 2) rfl (fun t320b => ?_) (fun t320b => ?_)
            · -- e87.kind = 2: true
              have t320 : e87.kind = 2 := by simpa using t320b
              refine WC.cond_true rfl ?_
              refine WC.region ?_
              refine WL.runs 1 [(145, .pointer (some ⟨p32, 0, none⟩))] (fun _ => by kernel_rfl) ?_
              refine WL.call rfl rfl rfl rfl rfl (by kernel_rfl) (Sync_ct F5 p32 N5 Y5 size w100 hf104) ?_
              rintro _ w322 ⟨F325, rfl, hF321, hT324, hsub326⟩
              have hT324' : stAt w322 F325 p32 N5 N5 size := hT324
              have hC323 := hC103.callF 0 rfl hF321 hsub326 (stAt_lt hT324')
              refine ⟨_, rfl, ?_⟩
              have hd327 := docAt_fr hd105 hF321 (hC103.disj 1 0 rfl rfl (by decide))
              refine WL.runs 1 [(147, .pointer (some ⟨g58, 0, none⟩))] (fun _ => by kernel_rfl) ?_
              refine WL.call rfl rfl rfl rfl rfl (by kernel_rfl) (RSync_ct R5 g58 ps5 qs5 size w322 hd327 hu1_ hl1_ hl2_) ?_
              rintro _ w329 ⟨rfl, hF328, hT331⟩
              have hs332 : ∀ x_ ∈ R5, x_ ∈ R5 ∨ w322.heap.size ≤ x_ := fun _ h_ => .inl h_
              have hC330 := hC323.callF 1 rfl hF328 (fun x_ hx_ => (List.mem_cons.1 hx_).elim (fun e_ => .inl (by rw [e_]; exact List.mem_cons_self)) (fun h_ => (hs332 x_ h_).imp (fun z_ => List.mem_cons_of_mem _ z_) id)) (docAt_lt hT331)
              refine ⟨_, rfl, ?_⟩
              have hf333 := stAt_fr hT324' hF328 (hC323.disj 0 1 rfl rfl (by decide))
              refine WL.runs 2 [(10, .bool ((unlN N5 Y5 : Int) == ((unlA ps5 qs5 : Int) + (unlB ps5 qs5 : Int)))), (149, .bool ((unlN N5 Y5 : Int) == ((unlA ps5 qs5 : Int) + (unlB ps5 qs5 : Int))))] (fun _ => by kernel_rfl) ?_
              refine WL.done rfl ?_
              refine QX.block_normal ?_
              refine QX.then_normal (hK109 _ _ ?_)
              refine WC.seq (fun K334 hK335 => ?_)
              refine WC.region ?_
              refine WL.runs 3 [(159, .bool (!((unlN N5 Y5 : Int) == ((unlA ps5 qs5 : Int) + (unlB ps5 qs5 : Int))))), (158, .bool (!((unlN N5 Y5 : Int) == ((unlA ps5 qs5 : Int) + (unlB ps5 qs5 : Int))))), (157, .bool ((unlN N5 Y5 : Int) == ((unlA ps5 qs5 : Int) + (unlB ps5 qs5 : Int))))] (fun _ => by kernel_rfl) ?_
              refine WL.know 159 (.bool (!((unlN N5 Y5 : Int) == ((unlA ps5 qs5 : Int) + (unlB ps5 qs5 : Int))))) (.bool false) rfl (congrArg Value.bool (by rw [unl_link hnN_ hnY_ hct5 hcq5]; simp)) ?_
              refine WL.runs 4 [(163, .pointer (some ⟨g58, 0, none⟩)), (162, .pointer (some ⟨g58, 0, none⟩)), (161, .pointer (some ⟨g58, 0, none⟩)), (160, .pointer (some ⟨p32, 0, none⟩))] (fun _ => by kernel_rfl) ?_
              obtain ⟨A336, c337, A338, c339, hp340, ho341, ho342, hi343, hi344, hb345, hb346, hn347, hl348⟩ := hT331
              have hC349 := hC330.unF1 1 rfl hp340 hn347
              refine WL.load 50 (.pointer (some ⟨g58, 0, none⟩)) (.slice A336 ps5.length c337) 164 (by kernel_rfl) (run_ld (hC349.get 1 rfl) rfl) ?_
              refine WL.call rfl rfl rfl rfl rfl (by kernel_rfl) (same_ct F325 p32 N5 N5 size A336 c337 ps5 R5 w329 hf333 (own_rd ho341 cellP_len (by decide)) hi343 hct5) ?_
              rintro _ w351 ⟨rfl, hF350⟩
              refine ⟨_, rfl, ?_⟩
              have hC352 := hC349.call hF350
              have hf353 := stAt_fr hf333 hF350 (by simp)
              have ho354 := own_fr ho341 hF350 (by simp)
              have ho355 := own_fr ho342 hF350 (by simp)
              have hf356 := rowsIn_fr hi343 hF350 (by simp)
              have hf357 := rowsIn_fr hi344 hF350 (by simp)
              refine WL.runs 2 [(167, .bool false), (166, .bool false)] (fun _ => by kernel_rfl) ?_
              refine WL.done rfl ?_
              refine QX.then_normal (hK335 _ _ ?_)
              refine WC.cond_false rfl ?_
              refine WC.skip ?_
              refine QX.block_normal ?_
              refine QX.then_normal (hK84 _ _ ?_)
              refine WC.region ?_
              refine WL.runs 1 [(168, .int .i64 (IntKind.i64.wrap ((i : Int) + 1)))] (fun _ => by kernel_rfl) ?_
              refine WL.recast (show (.int .i64 (IntKind.i64.wrap ((i : Int) + 1)) : Value) = .int .i64 ((i : Int) + 1) from by rw [wrap_in_i64 ((i : Int) + 1) (by omega) (by omega)]) ?_
              refine WL.runs 1 [(59, .int .i64 ((i : Int) + 1))] (fun _ => by kernel_rfl) ?_
              refine WL.done rfl ?_
              refine QX.then_normal ?_
              have hdoc358 : docAt w351 R5 g58 ps5 ps5 size := doc_mk (hC352.get 1 rfl) ho354 ho355 hf356 hf357 hb345 hb346 (hC352.notin 1 1 rfl rfl) (hC352.ltF 1 rfl)
              have hC359 := hC352.toF1 1 1 rfl rfl
              have hC360 := hC359.pick [] [0, 1] rfl rfl
              refine fun a_ ha_ => hK73 _ _ _ ?_ ⟨i + 1, F325, N5, N5, R5, ps5, ps5, rfl, rfl, hC360, hf353, hdoc358, by omega, hct5, hct5⟩ a_ (ha_.weaken (sub_of ⟨rfl, rfl, rfl, rfl, rfl, rfl, rfl, rfl, trivial⟩))
              omega
            · -- e87.kind = 2: false
              have t320 : ¬ (e87.kind = 2) := by simpa using t320b
              refine WC.cond_false rfl ?_
              refine WC.seq (fun K361 hK362 => ?_)
              refine WC.region ?_
              refine WL.runs 2 [(150, .bool (e87.kind == 3)), (151, .bool (e87.kind == 3))] (fun _ => by kernel_rfl) ?_
              refine WL.done rfl ?_
              refine QX.then_normal (hK362 _ _ ?_)
              refine WC.test_at 150 (e87.kind == 3) rfl (fun t363b => ?_) (fun t363b => ?_)
              · -- e87.kind = 3: true
                have t363 : e87.kind = 3 := by simpa using t363b
                refine WC.cond_true rfl ?_
                refine WC.region ?_
                refine WL.runs 1 [(152, .pointer (some ⟨p32, 0, none⟩))] (fun _ => by kernel_rfl) ?_
                refine WL.call rfl rfl rfl rfl rfl (by kernel_rfl) (Crash_ct F5 p32 N5 Y5 size w100 hf104) ?_
                rintro _ w365 ⟨F368, rfl, hF364, hT367, hsub369⟩
                have hT367' : stAt w365 F368 p32 Y5 Y5 size := hT367
                have hC366 := hC103.callF 0 rfl hF364 hsub369 (stAt_lt hT367')
                refine ⟨_, rfl, ?_⟩
                have hd370 := docAt_fr hd105 hF364 (hC103.disj 1 0 rfl rfl (by decide))
                refine WL.runs 1 [(154, .pointer (some ⟨g58, 0, none⟩))] (fun _ => by kernel_rfl) ?_
                refine WL.call rfl rfl rfl rfl rfl (by kernel_rfl) (RCrash_ct R5 g58 ps5 qs5 size w365 hd370 hu1_ hl1_ hl2_) ?_
                rintro _ w372 ⟨rfl, hF371, hT374⟩
                have hs375 : ∀ x_ ∈ R5, x_ ∈ R5 ∨ w365.heap.size ≤ x_ := fun _ h_ => .inl h_
                have hC373 := hC366.callF 1 rfl hF371 (fun x_ hx_ => (List.mem_cons.1 hx_).elim (fun e_ => .inl (by rw [e_]; exact List.mem_cons_self)) (fun h_ => (hs375 x_ h_).imp (fun z_ => List.mem_cons_of_mem _ z_) id)) (docAt_lt hT374)
                refine ⟨_, rfl, ?_⟩
                have hf376 := stAt_fr hT367' hF371 (hC366.disj 0 1 rfl rfl (by decide))
                refine WL.runs 2 [(10, .bool ((unlN N5 Y5 : Int) == ((unlA ps5 qs5 : Int) + (unlB ps5 qs5 : Int)))), (156, .bool ((unlN N5 Y5 : Int) == ((unlA ps5 qs5 : Int) + (unlB ps5 qs5 : Int))))] (fun _ => by kernel_rfl) ?_
                refine WL.done rfl ?_
                refine QX.block_normal ?_
                refine QX.then_normal (hK109 _ _ ?_)
                refine WC.seq (fun K377 hK378 => ?_)
                refine WC.region ?_
                refine WL.runs 3 [(159, .bool (!((unlN N5 Y5 : Int) == ((unlA ps5 qs5 : Int) + (unlB ps5 qs5 : Int))))), (158, .bool (!((unlN N5 Y5 : Int) == ((unlA ps5 qs5 : Int) + (unlB ps5 qs5 : Int))))), (157, .bool ((unlN N5 Y5 : Int) == ((unlA ps5 qs5 : Int) + (unlB ps5 qs5 : Int))))] (fun _ => by kernel_rfl) ?_
                refine WL.know 159 (.bool (!((unlN N5 Y5 : Int) == ((unlA ps5 qs5 : Int) + (unlB ps5 qs5 : Int))))) (.bool false) rfl (congrArg Value.bool (by rw [unl_link hnN_ hnY_ hct5 hcq5]; simp)) ?_
                refine WL.runs 4 [(163, .pointer (some ⟨g58, 0, none⟩)), (162, .pointer (some ⟨g58, 0, none⟩)), (161, .pointer (some ⟨g58, 0, none⟩)), (160, .pointer (some ⟨p32, 0, none⟩))] (fun _ => by kernel_rfl) ?_
                obtain ⟨A379, c380, A381, c382, hp383, ho384, ho385, hi386, hi387, hb388, hb389, hn390, hl391⟩ := hT374
                have hC392 := hC373.unF1 1 rfl hp383 hn390
                refine WL.load 50 (.pointer (some ⟨g58, 0, none⟩)) (.slice A379 qs5.length c380) 164 (by kernel_rfl) (run_ld (hC392.get 1 rfl) rfl) ?_
                refine WL.call rfl rfl rfl rfl rfl (by kernel_rfl) (same_ct F368 p32 Y5 Y5 size A379 c380 qs5 R5 w372 hf376 (own_rd ho384 cellP_len (by decide)) hi386 hcq5) ?_
                rintro _ w394 ⟨rfl, hF393⟩
                refine ⟨_, rfl, ?_⟩
                have hC395 := hC392.call hF393
                have hf396 := stAt_fr hf376 hF393 (by simp)
                have ho397 := own_fr ho384 hF393 (by simp)
                have ho398 := own_fr ho385 hF393 (by simp)
                have hf399 := rowsIn_fr hi386 hF393 (by simp)
                have hf400 := rowsIn_fr hi387 hF393 (by simp)
                refine WL.runs 2 [(167, .bool false), (166, .bool false)] (fun _ => by kernel_rfl) ?_
                refine WL.done rfl ?_
                refine QX.then_normal (hK378 _ _ ?_)
                refine WC.cond_false rfl ?_
                refine WC.skip ?_
                refine QX.block_normal ?_
                refine QX.then_normal (hK84 _ _ ?_)
                refine WC.region ?_
                refine WL.runs 1 [(168, .int .i64 (IntKind.i64.wrap ((i : Int) + 1)))] (fun _ => by kernel_rfl) ?_
                refine WL.recast (show (.int .i64 (IntKind.i64.wrap ((i : Int) + 1)) : Value) = .int .i64 ((i : Int) + 1) from by rw [wrap_in_i64 ((i : Int) + 1) (by omega) (by omega)]) ?_
                refine WL.runs 1 [(59, .int .i64 ((i : Int) + 1))] (fun _ => by kernel_rfl) ?_
                refine WL.done rfl ?_
                refine QX.then_normal ?_
                have hdoc401 : docAt w394 R5 g58 qs5 qs5 size := doc_mk (hC395.get 1 rfl) ho397 ho398 hf399 hf400 hb388 hb389 (hC395.notin 1 1 rfl rfl) (hC395.ltF 1 rfl)
                have hC402 := hC395.toF1 1 1 rfl rfl
                have hC403 := hC402.pick [] [0, 1] rfl rfl
                refine fun a_ ha_ => hK73 _ _ _ ?_ ⟨i + 1, F368, Y5, Y5, R5, qs5, qs5, rfl, rfl, hC403, hf396, hdoc401, by omega, hcq5, hcq5⟩ a_ (ha_.weaken (sub_of ⟨rfl, rfl, rfl, rfl, rfl, rfl, rfl, rfl, trivial⟩))
                omega
              · -- e87.kind = 3: false
                have t363 : ¬ (e87.kind = 3) := by simpa using t363b
                refine WC.cond_false rfl ?_
                refine WC.seq (fun K404 hK405 => ?_)
                refine WC.region ?_
                refine WL.runs 2 [(67, .pointer (some ⟨g93, 1, none⟩)), (66, .pointer (some ⟨p32, 0, none⟩))] (fun _ => by kernel_rfl) ?_
                refine WL.load 9 (.pointer (some ⟨g93, 1, none⟩)) (.string e87.key) 68 (by kernel_rfl) (run_ld (hC103.get 0 rfl) rfl) ?_
                rcases hlk_ : lookL N5 e87.key with _ | xs_
                · skip
                  refine WL.call rfl rfl rfl rfl rfl (by kernel_rfl) (Get_no F5 p32 N5 Y5 size e87.key w100 hf104 (hlk_)) ?_
                  rintro _ w408 ⟨v_, rfl, hF407, ho406⟩
                  have hC409 := hC103.callN hF407 (own_ge ho406) (own_lt ho406)
                  obtain ⟨A410, c411, rfl, hle412⟩ := own_form ho406
                  have ho414 := own_base (b' := 0) ho406 (fun _ _ => Nat.zero_le _)
                  refine ⟨_, rfl, ?_⟩
                  have hf415 := stAt_fr hf104 hF407 (by simp)
                  have hd416 := docAt_fr hd105 hF407 (by simp)
                  refine WL.runs 5 [(15, .iface 38 (.int .i64 6)), (14, .slice A410 (([] : List Int).length) c411), (71, .iface 38 (.int .i64 6)), (70, .slice A410 (([] : List Int).length) c411), (65, .tuple #[.slice A410 (([] : List Int).length) c411, .iface 38 (.int .i64 6)])] (fun _ => by kernel_rfl) ?_
                  refine WL.done rfl ?_
                  refine QX.then_normal (hK405 _ _ ?_)
                  refine WC.seq (fun K418 hK419 => ?_)
                  refine WC.region ?_
                  refine WL.runs 2 [(74, .pointer (some ⟨g93, 1, none⟩)), (73, .pointer (some ⟨g58, 0, none⟩))] (fun _ => by kernel_rfl) ?_
                  refine WL.load 9 (.pointer (some ⟨g93, 1, none⟩)) (.string e87.key) 75 (by kernel_rfl) (run_ld (hC409.get 0 rfl) rfl) ?_
                  refine WL.call rfl rfl rfl rfl rfl (by kernel_rfl) (RGet_ct R5 g58 ps5 qs5 size e87.key w408 hd416 hu1_ hl1_ hl2_) ?_
                  rintro _ w424 ⟨r420, er421, rfl, hF423, hor422⟩
                  refine ⟨_, rfl, ?_⟩
                  have hC425 := hC409.call hF423
                  have hf426 := stAt_fr hf415 hF423 (by simp)
                  have hd427 := docAt_fr hd416 hF423 (by simp)
                  have ho428 := own_fr ho414 hF423 (by simp)
                  obtain ⟨rfl, rfl, _⟩ : er421 = 6 ∧ r420 = zeroB ∧ True := by
                    rcases hor422 with ⟨h1_, h2_, _⟩ | ⟨_, h2_, _⟩
                    · exact ⟨h1_, h2_, trivial⟩
                    · rw [hct5, listL_look hnN_, hlk_] at h2_; cases h2_
                  refine WL.runs 5 [(17, .int .i64 6), (16, .slice zeroB.a zeroB.n zeroB.c), (78, .int .i64 6), (77, .slice zeroB.a zeroB.n zeroB.c), (72, .tuple #[.slice zeroB.a zeroB.n zeroB.c, .int .i64 6])] (fun _ => by kernel_rfl) ?_
                  refine WL.done rfl ?_
                  refine QX.then_normal (hK419 _ _ ?_)
                  refine WC.region ?_
                  refine WL.runs 1 [(79, .slice A410 (([] : List Int).length) c411)] (fun _ => by kernel_rfl) ?_
                  refine WL.sem (convert 22 9 (.slice A410 (([] : List Int).length) c411)) 80 (.string (strOfNums ([] : List Int))) (by kernel_rfl) (run_bytes_str rfl rfl rfl (own_rd ho428 (Go.Tw.encI_len _) (by decide)) (own_count (Go.Tw.encI_len _) (by decide) ho428)) ?_
                  refine WL.runs 1 [(81, .slice zeroB.a zeroB.n zeroB.c)] (fun _ => by kernel_rfl) ?_
                  refine WL.sem (convert 22 9 (.slice zeroB.a zeroB.n zeroB.c)) 82 (.string (strOfNums ([] : List Int))) (by kernel_rfl) (run_bytes_str rfl rfl rfl (Rd.nil _ _ _ _) (by first | rfl | assumption | (simp; done))) ?_
                  refine WL.runs 1 [(83, .bool ((strOfNums ([] : List Int)).toList == (strOfNums ([] : List Int)).toList))] (fun _ => by kernel_rfl) ?_
                  refine WL.recast (show (.bool ((strOfNums ([] : List Int)).toList == (strOfNums ([] : List Int)).toList) : Value) = .bool (decide ((strOfNums ([] : List Int)) = (strOfNums ([] : List Int)))) from by rw [str_eql]) ?_
                  refine WL.runs 1 [(84, .bool (decide ((strOfNums ([] : List Int)) = (strOfNums ([] : List Int)))))] (fun _ => by kernel_rfl) ?_
                  refine WL.know 84 (.bool (decide ((strOfNums ([] : List Int)) = (strOfNums ([] : List Int))))) (.bool true) rfl (congrArg Value.bool (by simp)) ?_
                  refine WL.runs 1 [(85, .iface 38 (.int .i64 6))] (fun _ => by kernel_rfl) ?_
                  refine WL.call rfl rfl rfl rfl rfl (by kernel_rfl) (Num_err 6 w424 (by decide)) ?_
                  rintro _ w430 ⟨rfl, hF429⟩
                  refine ⟨_, rfl, ?_⟩
                  have hC431 := hC425.call hF429
                  have hf432 := stAt_fr hf426 hF429 (by simp)
                  have hd433 := docAt_fr hd427 hF429 (by simp)
                  have ho434 := own_fr ho428 hF429 (by simp)
                  refine WL.runs 4 [(10, .bool true), (89, .bool true), (88, .bool true), (87, .int .i64 6)] (fun _ => by kernel_rfl) ?_
                  refine WL.done rfl ?_
                  refine QX.block_normal ?_
                  refine QX.then_normal (hK109 _ _ ?_)
                  refine WC.seq (fun K435 hK436 => ?_)
                  refine WC.region ?_
                  refine WL.runs 7 [(163, .pointer (some ⟨g58, 0, none⟩)), (162, .pointer (some ⟨g58, 0, none⟩)), (161, .pointer (some ⟨g58, 0, none⟩)), (160, .pointer (some ⟨p32, 0, none⟩)), (159, .bool false), (158, .bool false), (157, .bool true)] (fun _ => by kernel_rfl) ?_
                  obtain ⟨A437, c438, A439, c440, hp441, ho442, ho443, hi444, hi445, hb446, hb447, hn448, hl449⟩ := hd433
                  have hC450 := hC431.unF1 1 rfl hp441 hn448
                  refine WL.load 50 (.pointer (some ⟨g58, 0, none⟩)) (.slice A437 ps5.length c438) 164 (by kernel_rfl) (run_ld (hC450.get 1 rfl) rfl) ?_
                  refine WL.call rfl rfl rfl rfl rfl (by kernel_rfl) (same_ct F5 p32 N5 Y5 size A437 c438 ps5 R5 w430 hf432 (own_rd ho442 cellP_len (by decide)) hi444 hct5) ?_
                  rintro _ w452 ⟨rfl, hF451⟩
                  refine ⟨_, rfl, ?_⟩
                  have hC453 := hC450.call hF451
                  have hf454 := stAt_fr hf432 hF451 (by simp)
                  have ho455 := own_fr ho434 hF451 (by simp)
                  have ho456 := own_fr ho442 hF451 (by simp)
                  have ho457 := own_fr ho443 hF451 (by simp)
                  have hf458 := rowsIn_fr hi444 hF451 (by simp)
                  have hf459 := rowsIn_fr hi445 hF451 (by simp)
                  refine WL.runs 2 [(167, .bool false), (166, .bool false)] (fun _ => by kernel_rfl) ?_
                  refine WL.done rfl ?_
                  refine QX.then_normal (hK436 _ _ ?_)
                  refine WC.cond_false rfl ?_
                  refine WC.skip ?_
                  refine QX.block_normal ?_
                  refine QX.then_normal (hK84 _ _ ?_)
                  refine WC.region ?_
                  refine WL.runs 1 [(168, .int .i64 (IntKind.i64.wrap ((i : Int) + 1)))] (fun _ => by kernel_rfl) ?_
                  refine WL.recast (show (.int .i64 (IntKind.i64.wrap ((i : Int) + 1)) : Value) = .int .i64 ((i : Int) + 1) from by rw [wrap_in_i64 ((i : Int) + 1) (by omega) (by omega)]) ?_
                  refine WL.runs 1 [(59, .int .i64 ((i : Int) + 1))] (fun _ => by kernel_rfl) ?_
                  refine WL.done rfl ?_
                  refine QX.then_normal ?_
                  have hdoc460 : docAt w452 R5 g58 ps5 qs5 size := doc_mk (hC453.get 1 rfl) ho456 ho457 hf458 hf459 hb446 hb447 (hC453.notin 1 1 rfl rfl) (hC453.ltF 1 rfl)
                  have hC461 := hC453.toF1 1 1 rfl rfl
                  have hC462 := hC461.pick [] [0, 1] rfl rfl
                  refine fun a_ ha_ => hK73 _ _ _ ?_ ⟨i + 1, F5, N5, Y5, R5, ps5, qs5, rfl, rfl, hC462, hf454, hdoc460, by omega, hct5, hcq5⟩ a_ (ha_.weaken (sub_of ⟨rfl, rfl, rfl, rfl, rfl, rfl, rfl, rfl, trivial⟩))
                  omega
                · skip
                  have hxl_ := hsu4_ _ (look_mem hlk_)
                  dsimp only at hxl_
                  refine WL.call rfl rfl rfl rfl rfl (by kernel_rfl) (Get_yes F5 p32 N5 Y5 size e87.key xs_ w100 hf104 (hlk_)) ?_
                  rintro _ w465 ⟨v_, rfl, hF464, ho463⟩
                  have hC466 := hC103.callN hF464 (own_ge ho463) (own_lt ho463)
                  obtain ⟨A467, c468, rfl, hle469⟩ := own_form ho463
                  have ho471 := own_base (b' := 0) ho463 (fun _ _ => Nat.zero_le _)
                  refine ⟨_, rfl, ?_⟩
                  have hf472 := stAt_fr hf104 hF464 (by simp)
                  have hd473 := docAt_fr hd105 hF464 (by simp)
                  refine WL.runs 5 [(15, .nilIface), (14, .slice A467 xs_.length c468), (71, .nilIface), (70, .slice A467 xs_.length c468), (65, .tuple #[.slice A467 xs_.length c468, .nilIface])] (fun _ => by kernel_rfl) ?_
                  refine WL.done rfl ?_
                  refine QX.then_normal (hK405 _ _ ?_)
                  refine WC.seq (fun K475 hK476 => ?_)
                  refine WC.region ?_
                  refine WL.runs 2 [(74, .pointer (some ⟨g93, 1, none⟩)), (73, .pointer (some ⟨g58, 0, none⟩))] (fun _ => by kernel_rfl) ?_
                  refine WL.load 9 (.pointer (some ⟨g93, 1, none⟩)) (.string e87.key) 75 (by kernel_rfl) (run_ld (hC466.get 0 rfl) rfl) ?_
                  refine WL.call rfl rfl rfl rfl rfl (by kernel_rfl) (RGet_ct R5 g58 ps5 qs5 size e87.key w465 hd473 hu1_ hl1_ hl2_) ?_
                  rintro _ w481 ⟨r477, er478, rfl, hF480, hor479⟩
                  refine ⟨_, rfl, ?_⟩
                  have hC482 := hC466.call hF480
                  have hf483 := stAt_fr hf472 hF480 (by simp)
                  have hd484 := docAt_fr hd473 hF480 (by simp)
                  have ho485 := own_fr ho471 hF480 (by simp)
                  obtain ⟨rfl, hrx_, hra_⟩ : er478 = 0 ∧ r477.xs = xs_ ∧ rowAt w481 r477 := by
                    rcases hor479 with ⟨_, _, h2_⟩ | ⟨h1_, h2_, h3_, _⟩
                    · rw [hct5, listL_look hnN_, hlk_] at h2_; cases h2_
                    · rw [hct5, listL_look hnN_, hlk_] at h2_; exact ⟨h1_, (Option.some.inj h2_).symm, h3_.fr hF480 (fun _ _ => by simp)⟩
                  have hrn_r477 : xs_.length = r477.n := by rw [← hrx_]; exact hra_.len
                  refine WL.runs 5 [(17, .int .i64 0), (16, .slice r477.a r477.n r477.c), (78, .int .i64 0), (77, .slice r477.a r477.n r477.c), (72, .tuple #[.slice r477.a r477.n r477.c, .int .i64 0])] (fun _ => by kernel_rfl) ?_
                  refine WL.done rfl ?_
                  refine QX.then_normal (hK476 _ _ ?_)
                  refine WC.region ?_
                  refine WL.runs 1 [(79, .slice A467 xs_.length c468)] (fun _ => by kernel_rfl) ?_
                  refine WL.sem (convert 22 9 (.slice A467 xs_.length c468)) 80 (.string (strOfNums xs_)) (by kernel_rfl) (run_bytes_str rfl rfl rfl (own_rd ho485 (Go.Tw.encI_len _) (by decide)) (own_count (Go.Tw.encI_len _) (by decide) ho485)) ?_
                  refine WL.runs 1 [(81, .slice r477.a r477.n r477.c)] (fun _ => by kernel_rfl) ?_
                  refine WL.sem (convert 22 9 (.slice r477.a r477.n r477.c)) 82 (.string (strOfNums xs_)) (by kernel_rfl) (run_bytes_str rfl rfl rfl (by rw [← hrx_]; exact hra_.rd) (by first | rfl | assumption | (simp; done))) ?_
                  refine WL.runs 1 [(83, .bool ((strOfNums xs_).toList == (strOfNums xs_).toList))] (fun _ => by kernel_rfl) ?_
                  refine WL.recast (show (.bool ((strOfNums xs_).toList == (strOfNums xs_).toList) : Value) = .bool (decide ((strOfNums xs_) = (strOfNums xs_))) from by rw [str_eql]) ?_
                  refine WL.runs 1 [(84, .bool (decide ((strOfNums xs_) = (strOfNums xs_))))] (fun _ => by kernel_rfl) ?_
                  refine WL.know 84 (.bool (decide ((strOfNums xs_) = (strOfNums xs_)))) (.bool true) rfl (congrArg Value.bool (by simp)) ?_
                  refine WL.runs 1 [(85, .nilIface)] (fun _ => by kernel_rfl) ?_
                  refine WL.call rfl rfl rfl rfl rfl (by kernel_rfl) (Num_nil w481) ?_
                  rintro _ w487 ⟨rfl, hF486⟩
                  refine ⟨_, rfl, ?_⟩
                  have hC488 := hC482.call hF486
                  have hf489 := stAt_fr hf483 hF486 (by simp)
                  have hd490 := docAt_fr hd484 hF486 (by simp)
                  have ho491 := own_fr ho485 hF486 (by simp)
                  refine WL.runs 4 [(10, .bool true), (89, .bool true), (88, .bool true), (87, .int .i64 0)] (fun _ => by kernel_rfl) ?_
                  refine WL.done rfl ?_
                  refine QX.block_normal ?_
                  refine QX.then_normal (hK109 _ _ ?_)
                  refine WC.seq (fun K492 hK493 => ?_)
                  refine WC.region ?_
                  refine WL.runs 7 [(163, .pointer (some ⟨g58, 0, none⟩)), (162, .pointer (some ⟨g58, 0, none⟩)), (161, .pointer (some ⟨g58, 0, none⟩)), (160, .pointer (some ⟨p32, 0, none⟩)), (159, .bool false), (158, .bool false), (157, .bool true)] (fun _ => by kernel_rfl) ?_
                  obtain ⟨A494, c495, A496, c497, hp498, ho499, ho500, hi501, hi502, hb503, hb504, hn505, hl506⟩ := hd490
                  have hC507 := hC488.unF1 1 rfl hp498 hn505
                  refine WL.load 50 (.pointer (some ⟨g58, 0, none⟩)) (.slice A494 ps5.length c495) 164 (by kernel_rfl) (run_ld (hC507.get 1 rfl) rfl) ?_
                  refine WL.call rfl rfl rfl rfl rfl (by kernel_rfl) (same_ct F5 p32 N5 Y5 size A494 c495 ps5 R5 w487 hf489 (own_rd ho499 cellP_len (by decide)) hi501 hct5) ?_
                  rintro _ w509 ⟨rfl, hF508⟩
                  refine ⟨_, rfl, ?_⟩
                  have hC510 := hC507.call hF508
                  have hf511 := stAt_fr hf489 hF508 (by simp)
                  have ho512 := own_fr ho491 hF508 (by simp)
                  have ho513 := own_fr ho499 hF508 (by simp)
                  have ho514 := own_fr ho500 hF508 (by simp)
                  have hf515 := rowsIn_fr hi501 hF508 (by simp)
                  have hf516 := rowsIn_fr hi502 hF508 (by simp)
                  refine WL.runs 2 [(167, .bool false), (166, .bool false)] (fun _ => by kernel_rfl) ?_
                  refine WL.done rfl ?_
                  refine QX.then_normal (hK493 _ _ ?_)
                  refine WC.cond_false rfl ?_
                  refine WC.skip ?_
                  refine QX.block_normal ?_
                  refine QX.then_normal (hK84 _ _ ?_)
                  refine WC.region ?_
                  refine WL.runs 1 [(168, .int .i64 (IntKind.i64.wrap ((i : Int) + 1)))] (fun _ => by kernel_rfl) ?_
                  refine WL.recast (show (.int .i64 (IntKind.i64.wrap ((i : Int) + 1)) : Value) = .int .i64 ((i : Int) + 1) from by rw [wrap_in_i64 ((i : Int) + 1) (by omega) (by omega)]) ?_
                  refine WL.runs 1 [(59, .int .i64 ((i : Int) + 1))] (fun _ => by kernel_rfl) ?_
                  refine WL.done rfl ?_
                  refine QX.then_normal ?_
                  have hdoc517 : docAt w509 R5 g58 ps5 qs5 size := doc_mk (hC510.get 1 rfl) ho513 ho514 hf515 hf516 hb503 hb504 (hC510.notin 1 1 rfl rfl) (hC510.ltF 1 rfl)
                  have hC518 := hC510.toF1 1 1 rfl rfl
                  have hC519 := hC518.pick [] [0, 1] rfl rfl
                  refine fun a_ ha_ => hK73 _ _ _ ?_ ⟨i + 1, F5, N5, Y5, R5, ps5, qs5, rfl, rfl, hC519, hf511, hdoc517, by omega, hct5, hcq5⟩ a_ (ha_.weaken (sub_of ⟨rfl, rfl, rfl, rfl, rfl, rfl, rfl, rfl, trivial⟩))
                  omega
      · -- (i : Int) < (ops.length : Int): false
        have t82 : (ops.length : Int) ≤ (i : Int) := by have q_ := of_decide_eq_false t82b; omega
        refine WC.cond_false rfl ?_
        refine WC.exit ?_
        refine QX.then_exit ?_
        refine QX.then_exit ?_
        refine QX.block_hit ?_
        refine QX.then_normal (hK65 _ _ ?_)
        refine WC.seq (fun K520 hK521 => ?_)
        refine WC.region ?_
        refine WL.runs 1 [(4, .bool true)] (fun _ => by kernel_rfl) ?_
        refine WL.done rfl ?_
        refine QX.then_normal (hK521 _ _ ?_)
        refine WC.ret ?_
        refine (hret _ _ _ rfl ?_).1
        clear hN hret hret' hK521 hK81 hK79 hK67 hK65 hK57 hK47 hK45 hK43 hK41 hK11 hK6 hK4 hK2
        exact ⟨rfl, hC77.fr⟩

end Go.Proofs.Ytelmklombehhkaa
