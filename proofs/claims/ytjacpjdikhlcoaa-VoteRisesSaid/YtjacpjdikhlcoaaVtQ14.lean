/- Contracts of functions of the program, each proved by a walk through its code; conditions stand in the statements. -/
import Derived.Test.YtjacpjdikhlcoaaVtP14
namespace Go.Proofs.Ytjacpjdikhlcoaa
set_option linter.unusedSimpArgs false
set_option linter.unusedVariables false
set_option linter.unusedSectionVars false
open Go Go.RowKit Go.Tw
set_option linter.unusedVariables false
set_option maxRecDepth 20000
theorem vs_loglen {w : World} {FA : List Nat} {p : Nat} {V : Vo} {sp : Nat} {N Y : Ct} {size : Int} (h : vsAt w FA p V sp N Y size) : V.log.length ≤ 1099511627776 := by
  obtain ⟨_, _, ⟨_, _, L, _, _, _, _, h4, h5, _⟩, _⟩ := h
  rw [← h4, vals_len]; exact h5
theorem asked_yes {V : Vo} {n d : Int} (h : askedE V n d = 0) : goodBal n d = true ∧ lessB n d V.pn V.pd = false := by
  unfold askedE at h
  cases hg : goodBal n d <;> simp only [hg] at h
  · cases h
  · cases hl : lessB n d V.pn V.pd <;> simp only [hl] at h
    · exact ⟨rfl, rfl⟩
    · cases h
theorem asked_low {V : Vo} {n d : Int} (h : askedE V n d = 8) : lessB n d V.pn V.pd = true := by
  unfold askedE at h
  cases hg : goodBal n d <;> simp only [hg] at h
  · cases h
  · cases hl : lessB n d V.pn V.pd <;> simp only [hl] at h
    · cases h
    · rfl
theorem accept_yes {V : Vo} {n d : Int} {L : List CmdV} (h : acceptE V n d L = 0) : askedE V n d = 0 ∧ goodL L = true := by
  unfold acceptE at h
  by_cases hg : goodBal n d = false ∨ goodL L = false
  · rw [if_pos hg] at h; cases h
  · rw [if_neg hg] at h
    refine ⟨h, ?_⟩
    cases hl : goodL L
    · exact absurd (.inr hl) hg
    · rfl
theorem accept_low {V : Vo} {n d : Int} {L : List CmdV} (h : acceptE V n d L = 8) : lessB n d V.pn V.pd = true := by
  unfold acceptE at h
  by_cases hg : goodBal n d = false ∨ goodL L = false
  · rw [if_pos hg] at h; cases h
  · rw [if_neg hg] at h; exact asked_low h
theorem tot_health (k : Int) : totE [(⟨⟨16, 0, k, 0, 3, 0, 0, 0, [], 167837697, 0, true⟩, none, 0⟩ : Cmd)] ≤ 1099511627776 := by simp [totE]
theorem less_self (a b : Int) : lessB a b a b = false := by unfold lessB; rw [decide_eq_false (by omega)]
theorem less_tr {a b c d e f : Int} (h1 : lessB a b c d = false) (h2 : lessB c d e f = false) : lessB a b e f = false := by
  unfold lessB at *
  have h1' := of_decide_eq_false h1
  have h2' := of_decide_eq_false h2
  rw [decide_eq_false (by omega)]
theorem used_prep (N : Ct) (n d : Int) : usedL (putL N kP (bytesN [n, d])) ≤ usedL N + 23 := by
  have h1 := used_put N kP (bytesN [n, d])
  have h2 := used_del_le N kP
  rw [bytes2_len] at h1
  rw [h1, show kP.size = 7 from rfl]; omega
theorem bytesH_len (k : Int) : (bytesL [(⟨16, 0, k, 0, 3, 0, 0, 0, [], 167837697, 0, true⟩ : CmdV)]).length = 104 := by
  unfold bytesL; rw [bytesN_len]; rfl
theorem used_acc (N : Ct) (n d k : Int) : usedL (putL (putL N kP (bytesN [n, d])) kV (bytesN [n, d] ++ bytesL [(⟨16, 0, k, 0, 3, 0, 0, 0, [], 167837697, 0, true⟩ : CmdV)])) ≤ usedL N + 147 := by
  have h0 := used_prep N n d
  generalize putL N kP (bytesN [n, d]) = N1 at h0
  have h1 := used_put N1 kV (bytesN [n, d] ++ bytesL [(⟨16, 0, k, 0, 3, 0, 0, 0, [], 167837697, 0, true⟩ : CmdV)])
  have h2 := used_del_le N1 kV
  rw [List.length_append, bytes2_len, bytesH_len] at h1
  rw [h1, show kV.size = 4 from rfl]; omega
theorem room_prep {N : Ct} {s : Int} (h : (usedL N : Int) + 147 ≤ s) : putE N s kP 16 = 0 :=
  putE_yes (by decide) (by decide) (by have h2 := used_del_le N kP; rw [show kP.size = 7 from rfl]; omega)
theorem room_acc {N : Ct} {s : Int} (h : (usedL N : Int) + 147 ≤ s) (n d k : Int) : putE (putL N kP (bytesN [n, d])) s kV (bytesN [n, d] ++ bytesL [(⟨16, 0, k, 0, 3, 0, 0, 0, [], 167837697, 0, true⟩ : CmdV)]).length = 0 := by
  have h0 := used_prep N n d
  generalize putL N kP (bytesN [n, d]) = N1 at h0
  refine putE_yes (by decide) (by decide) ?_
  have h2 := used_del_le N1 kV
  rw [List.length_append, bytes2_len, bytesH_len, show kV.size = 4 from rfl]; omega
set_option maxHeartbeats 4000000 in
theorem VoteRises_ct (A : Option Addr) (c : Nat) (bs : List (Int × Int)) (B : Option Addr) (c2 : Nat) (ks : List Bool) (w : World) (hr : Rd w 2 encBal A bs) (hr2 : Rd w 1 Go.Tw.encB B ks) (hbi : ∀ b ∈ bs, isI64 b.1 ∧ isI64 b.2) (hkl : ks.length ≤ 9223372036854775807) : Calls Try.prog 5 #[.slice A bs.length c, .slice B ks.length c2] w fun e w' => e = .returned (.bool true) ∧ Fr w w' [] := by
  refine enterD (n := 159) Try.func5 rfl rfl (Nat.le_of_ble_eq_true rfl) ?_
  intro Q0 hN hret hret'
  have hC := Cx.start w
  refine WC.seq (fun K1 hK2 => ?_)
  refine WC.region ?_
  refine WL.runs 1 [(4, .bool false)] (fun _ => by kernel_rfl) ?_
  refine WL.done rfl ?_
  refine QX.then_normal (hK2 _ _ ?_)
  refine WC.seq (fun K3 hK4 => ?_)
  refine WC.seq (fun K5 hK6 => ?_)
  refine WC.region ?_
  refine WL.call rfl rfl rfl rfl rfl (by kernel_rfl) (alive_ct w) ?_
  rintro _ w8 ⟨rfl, hF7⟩
  refine ⟨_, rfl, ?_⟩
  have hC9 := hC.call hF7
  refine WL.runs 1 [(19, .bool false)] (fun _ => by kernel_rfl) ?_
  refine WL.done rfl ?_
  refine QX.then_normal (hK6 _ _ ?_)
  refine WC.cond_false rfl ?_
  refine WC.skip ?_
  refine QX.then_normal (hK4 _ _ ?_)
  refine WC.seq (fun K10 hK11 => ?_)
  refine WC.seq (fun K12 hK13 => ?_)
  refine WC.region ?_
  refine WL.runs 3 [(22, .bool (decide ((bs.length : Int) > 100))), (21, .int .i64 (bs.length : Int)), (20, .slice A bs.length c)] (fun _ => by kernel_rfl) ?_
  refine WL.done rfl ?_
  refine QX.then_normal (hK13 _ _ ?_)
  refine WC.test_at 22 (decide ((bs.length : Int) > 100)) rfl (fun t14b => ?_) (fun t14b => ?_)
  · -- (bs.length : Int) > 100: true
    have t14 : (100 : Int) < (bs.length : Int) := by have q_ := of_decide_eq_true t14b; omega
    refine WC.cond_true rfl ?_
    refine WC.seq (fun K15 hK16 => ?_)
    refine WC.region ?_
    refine WL.runs 1 [(4, .bool true)] (fun _ => by kernel_rfl) ?_
    refine WL.done rfl ?_
    refine QX.then_normal (hK16 _ _ ?_)
    refine WC.ret ?_
    refine QX.then_ret ?_
    refine (hret _ _ _ rfl ?_).1
    clear hN hret hret' hK16 hK13 hK11 hK6 hK4 hK2
    exact ⟨rfl, hC9.fr⟩
  · -- (bs.length : Int) > 100: false
    have t14 : (bs.length : Int) ≤ 100 := by have q_ := of_decide_eq_false t14b; omega
    refine WC.cond_false rfl ?_
    refine WC.skip ?_
    refine QX.then_normal (hK11 _ _ ?_)
    refine WC.seq (fun K17 hK18 => ?_)
    refine WC.region ?_
    refine WL.call rfl rfl rfl rfl rfl (by kernel_rfl) (opened_ct 4194304 17 w8 (by decide) (by decide) ⟨by decide, by decide⟩ (by decide)) ?_
    rintro _ w23 ⟨sp19, p20, FA21, rfl, hF22, hvs25, hg26⟩
    have hC24 := hC9.callN hF22 hg26 (vsAt_lt hvs25)
    refine ⟨_, rfl, ?_⟩
    refine WL.runs 5 [(6, .pointer (some ⟨p20, 0, none⟩)), (5, .pointer (some ⟨sp19, 0, none⟩)), (26, .pointer (some ⟨p20, 0, none⟩)), (25, .pointer (some ⟨sp19, 0, none⟩)), (23, .tuple #[.pointer (some ⟨sp19, 0, none⟩), .pointer (some ⟨p20, 0, none⟩)])] (fun _ => by kernel_rfl) ?_
    refine WL.done rfl ?_
    refine QX.then_normal (hK18 _ _ ?_)
    refine WC.seq (fun K27 hK28 => ?_)
    refine WC.seq (fun K29 hK30 => ?_)
    refine WC.region ?_
    refine WL.runs 6 [(32, .bool false), (31, .bool false), (30, .pointer (some ⟨p20, 0, none⟩)), (29, .bool false), (28, .bool false), (27, .pointer (some ⟨sp19, 0, none⟩))] (fun _ => by kernel_rfl) ?_
    refine WL.done rfl ?_
    refine QX.then_normal (hK30 _ _ ?_)
    refine WC.cond_false rfl ?_
    refine WC.skip ?_
    refine QX.then_normal (hK28 _ _ ?_)
    refine WC.seq (fun K31 hK32 => ?_)
    refine WC.region ?_
    refine WL.runs 1 [(7, .int .i64 0)] (fun _ => by kernel_rfl) ?_
    refine WL.done rfl ?_
    refine QX.then_normal (hK32 _ _ ?_)
    refine WC.seq (fun K33 hK34 => ?_)
    refine WC.seq (fun K35 hK36 => ?_)
    refine WC.region ?_
    refine WL.runs 3 [(35, .int .i64 0), (34, .int .i64 (bs.length : Int)), (33, .slice A bs.length c)] (fun _ => by kernel_rfl) ?_
    refine WL.done rfl ?_
    refine QX.then_normal (hK36 _ _ ?_)
    refine WC.block ?_
    refine WC.loop (fun m_ E_ w_ => ∃ (i : Nat) (k : Int) (FA : List Nat) (V : Vo) (N : Ct), m_ = bs.length - i ∧ E_ = [(0, .slice A bs.length c), (1, .slice B ks.length c2), (5, .pointer (some ⟨sp19, 0, none⟩)), (6, .pointer (some ⟨p20, 0, none⟩)), (7, .int .i64 k), (33, .slice A bs.length c), (34, .int .i64 (bs.length : Int)), (35, .int .i64 (i : Int))] ∧ Cx w [] w_ [] [FA] ∧ vsAt w_ FA p20 V sp19 N N 4194304 ∧ (i ≤ bs.length ∧ 0 ≤ k ∧ k ≤ (i : Int) ∧ lessB V.pn V.pd V.an V.ad = false ∧ usedL N ≤ 147 * i)) ⟨_, _, ⟨0, 0, FA21, (⟨0, 0, 0, 0, [], 17⟩ : Vo), [], rfl, rfl, hC24, hvs25, Nat.zero_le _, Int.le_refl _, Int.le_refl _, rfl, Nat.le_refl _⟩, sub_of ⟨rfl, rfl, rfl, rfl, rfl, rfl, rfl, rfl, trivial⟩⟩ (fun m40 E_ w41 K37 hK38 hI39 => ?_)
    obtain ⟨i, k, FA, V, N, rfl, rfl, hC42, hvs, hi, hk0, hk1, hless, hus⟩ := hI39
    refine WC.seq (fun K43 hK44 => ?_)
    refine WC.region ?_
    refine WL.runs 1 [(36, .bool (decide ((i : Int) < (bs.length : Int))))] (fun _ => by kernel_rfl) ?_
    refine WL.done rfl ?_
    refine QX.then_normal (hK44 _ _ ?_)
    refine WC.seq (fun K45 hK46 => ?_)
    refine WC.test_at 36 (decide ((i : Int) < (bs.length : Int))) rfl (fun t47b => ?_) (fun t47b => ?_)
    · -- (i : Int) < (bs.length : Int): true
      have t47 : (i : Int) < (bs.length : Int) := by have q_ := of_decide_eq_true t47b; omega
      refine WC.cond_true rfl ?_
      refine WC.skip ?_
      refine QX.then_normal (hK46 _ _ ?_)
      refine WC.seq (fun K48 hK49 => ?_)
      refine WC.block ?_
      refine WC.seq (fun K50 hK51 => ?_)
      refine WC.region ?_
      refine WL.runs 1 [(37, .int .i64 (i : Int))] (fun _ => by kernel_rfl) ?_
      obtain ⟨e52, he53⟩ := get_some (xs := bs) (i := i) (by omega)
      obtain ⟨b54, o56, hA55, hc57⟩ := hr.at_ _ _ he53
      refine WL.index A bs.length c 38 .i64 (i : Int) b54 o56 i 2 (by kernel_rfl) hA55 (by omega) (by omega) (o56 + i * 2) (by first | (simp; done) | omega) ?_
      refine WL.load 50 (.pointer (some ⟨b54, o56 + i * 2, none⟩)) (.agg #[.int .i64 e52.1, .int .i64 e52.2]) 39 (by kernel_rfl) (run_rdN (l := [.int .i64 e52.1, .int .i64 e52.2]) rfl rfl (fun j u hu => by have hq_ := hC42.fr.cell (hc57 j u hu) (by simp); simpa [Nat.add_assoc] using hq_)) ?_
      refine WL.newM hC42 (fun b => .pointer (some ⟨b, 0, none⟩)) (.cells #[.int .i64 0, .int .i64 0] 50) 9 (fun _ => by kernel_rfl) (fun g58 w59 hb62 hF60 hC61 => ?_)
      have hvs63 := vsAt_fr hvs hF60 (by simp)
      refine WL.runs 1 [(8, .int .i64 (i : Int))] (fun _ => by kernel_rfl) ?_
      refine WL.storeM (c' := #[.int .i64 e52.1, .int .i64 e52.2]) hC61 0 50 g58 0 (.agg #[.int .i64 e52.1, .int .i64 e52.2]) (by kernel_rfl) rfl (by kernel_rfl) (fun w64 hF66 hC67 => ?_)
      have hvs68 := vsAt_fr hvs63 hF66 (hC61.apartM 0 0 rfl rfl)
      refine WL.done rfl ?_
      refine QX.then_normal (hK51 _ _ ?_)
      refine WC.seq (fun K69 hK70 => ?_)
      refine WC.region ?_
      refine WL.runs 1 [(40, .pointer (some ⟨p20, 0, none⟩))] (fun _ => by kernel_rfl) ?_
      refine WL.call rfl rfl rfl rfl rfl (by kernel_rfl) (PromVS FA p20 V sp19 N N 4194304 w64 hvs68) ?_
      rintro _ w72 ⟨rfl, hF71⟩
      refine ⟨_, rfl, ?_⟩
      have hC73 := hC67.call hF71
      have hvs74 := vsAt_fr hvs68 hF71 (by simp)
      refine WL.newM hC73 (fun b => .pointer (some ⟨b, 0, none⟩)) (.cells #[.int .i64 0, .int .i64 0] 50) 10 (fun _ => by kernel_rfl) (fun g75 w76 hb79 hF77 hC78 => ?_)
      have hvs80 := vsAt_fr hvs74 hF77 (by simp)
      refine WL.storeM (c' := #[.int .i64 V.pn, .int .i64 V.pd]) hC78 1 50 g75 0 (.agg #[.int .i64 V.pn, .int .i64 V.pd]) (by kernel_rfl) rfl (by kernel_rfl) (fun w81 hF83 hC84 => ?_)
      have hvs85 := vsAt_fr hvs80 hF83 (hC78.apartM 0 1 rfl rfl)
      refine WL.done rfl ?_
      refine QX.then_normal (hK70 _ _ ?_)
      refine WC.seq (fun K86 hK87 => ?_)
      refine WC.region ?_
      refine WL.runs 1 [(43, .pointer (some ⟨p20, 0, none⟩))] (fun _ => by kernel_rfl) ?_
      refine WL.call rfl rfl rfl rfl rfl (by kernel_rfl) (AcceptedVS FA p20 V sp19 N N 4194304 w81 hvs85) ?_
      rintro _ w98 ⟨A88, c89, L90, R91, rfl, hF92, ho93, hli94, hvv95, hRg96, hgr97⟩
      have hC99 := callNN hC84 hF92 (own_ge ho93) (own_lt ho93) (fun x_ h_ => (hRg96 x_ h_).1) (fun x_ h_ => (hRg96 x_ h_).2) hgr97
      refine ⟨_, rfl, ?_⟩
      have hvs100 := vsAt_fr hvs85 hF92 (by simp)
      have ho101 := own_base (b' := 0) ho93 (fun _ _ => Nat.zero_le _)
      have hvvN_L90 : vals L90 = (V.log : List CmdV) := hvv95
      have hll_L90 : L90.length = (V.log : List CmdV).length := by rw [← vals_len, hvvN_L90]
      refine WL.runs 3 [(46, .slice A88 L90.length c89), (45, .agg #[.int .i64 V.an, .int .i64 V.ad]), (42, .tuple #[.agg #[.int .i64 V.an, .int .i64 V.ad], .slice A88 L90.length c89])] (fun _ => by kernel_rfl) ?_
      refine WL.newM hC99 (fun b => .pointer (some ⟨b, 0, none⟩)) (.cells #[.int .i64 0, .int .i64 0] 50) 11 (fun _ => by kernel_rfl) (fun g103 w104 hb107 hF105 hC106 => ?_)
      have hvs108 := vsAt_fr hvs100 hF105 (by simp)
      have ho109 := own_fr ho101 hF105 (by simp)
      have hl110 := logIn.fr hli94 hF105 (by simp)
      refine WL.storeM (c' := #[.int .i64 V.an, .int .i64 V.ad]) hC106 2 50 g103 0 (.agg #[.int .i64 V.an, .int .i64 V.ad]) (by kernel_rfl) rfl (by kernel_rfl) (fun w111 hF113 hC114 => ?_)
      have hvs115 := vsAt_fr hvs108 hF113 (hC106.apartM 0 2 rfl rfl)
      have ho116 := own_fr ho109 hF113 (hC106.apartM 1 2 rfl rfl)
      have hl117 := logIn.fr hl110 hF113 (hC106.apartM 2 2 rfl rfl)
      refine WL.runs 1 [(12, .slice A88 L90.length c89)] (fun _ => by kernel_rfl) ?_
      refine WL.done rfl ?_
      refine QX.then_normal (hK87 _ _ ?_)
      refine WC.seq (fun K118 hK119 => ?_)
      refine WC.region ?_
      refine WL.runs 1 [(13, .nilIface)] (fun _ => by kernel_rfl) ?_
      refine WL.done rfl ?_
      refine QX.then_normal (hK119 _ _ ?_)
      refine WC.seq (fun K120 hK121 => ?_)
      refine WC.seq (fun K122 hK123 => ?_)
      refine WC.region ?_
      refine WL.runs 5 [(51, .bool (decide ((i : Int) < (ks.length : Int)))), (50, .bool (decide ((i : Int) < (ks.length : Int)))), (49, .int .i64 (ks.length : Int)), (48, .slice B ks.length c2), (47, .int .i64 (i : Int))] (fun _ => by kernel_rfl) ?_
      refine WL.test_at 51 (decide ((i : Int) < (ks.length : Int))) rfl (fun t124b => ?_) (fun t124b => ?_)
      · -- (i : Int) < (ks.length : Int): true
        have t124 : (i : Int) < (ks.length : Int) := by have q_ := of_decide_eq_true t124b; omega
        refine WL.runs 2 [(53, .int .i64 (i : Int)), (52, .slice B ks.length c2)] (fun _ => by kernel_rfl) ?_
        obtain ⟨e125, he126⟩ := get_some (xs := ks) (i := i) (by omega)
        obtain ⟨b127, o129, hA128, hc130⟩ := hr2.at_ _ _ he126
        refine WL.index B ks.length c2 54 .i64 (i : Int) b127 o129 i 1 (by kernel_rfl) hA128 (by omega) (by omega) (o129 + i) (by first | (simp; done) | omega) ?_
        refine WL.load 4 (.pointer (some ⟨b127, o129 + i, none⟩)) (.bool e125) 55 (by kernel_rfl) (run_load1 rfl (by simpa [Nat.add_assoc] using hC114.fr.cell (hc130 0 _ rfl) (by simp))) ?_
        refine WL.runs 1 [(56, .bool e125)] (fun _ => by kernel_rfl) ?_
        refine WL.done rfl ?_
        refine QX.then_normal (hK123 _ _ ?_)
        refine WC.test_at 56 (e125) rfl (fun t131b => ?_) (fun t131b => ?_)
        · -- e125 = true: true
          refine WC.cond_true rfl ?_
          refine WC.seq (fun K132 hK133 => ?_)
          refine WC.region ?_
          refine WL.runs 2 [(58, .int .i64 (IntKind.i64.wrap (k + 1))), (57, .int .i64 k)] (fun _ => by kernel_rfl) ?_
          refine WL.recast (show (.int .i64 (IntKind.i64.wrap (k + 1)) : Value) = .int .i64 (k + 1) from by rw [wrap_in_i64 (k + 1) (by omega) (by omega)]) ?_
          refine WL.runs 1 [(7, .int .i64 (k + 1))] (fun _ => by kernel_rfl) ?_
          refine WL.done rfl ?_
          refine QX.then_normal (hK133 _ _ ?_)
          refine WC.drawC hC114 FA (by kernel_rfl) (fun w134 hF135 hC136 hS137 => ?_)
          have hvs138 := vsAt_fr hvs115 hF135 (by simp)
          have ho139 := own_fr ho116 hF135 (by simp)
          have hl140 := logIn.fr hl117 hF135 (by simp)
          refine WD.pure (NoPanic.then (NoPanic.block (NoPanic.then (NoPanic.then (NoPanic.block (NoPanic.then hN)))))) 0 59 (.pointer (some ⟨p20, 0, none⟩)) (by kernel_rfl) (fun _ => by kernel_rfl) hS137 ?_
          refine WD.pure (NoPanic.then (NoPanic.block (NoPanic.then (NoPanic.then (NoPanic.block (NoPanic.then hN)))))) 2 61 (.int .i64 (k + 1)) (by kernel_rfl) (fun _ => by kernel_rfl) hS137 ?_
          refine WD.load (NoPanic.then (NoPanic.block (NoPanic.then (NoPanic.then (NoPanic.block (NoPanic.then hN)))))) 1 50 (.pointer (some ⟨g58, 0, none⟩)) (.agg #[.int .i64 e52.1, .int .i64 e52.2]) 60 (by kernel_rfl) (by kernel_rfl) (fun _ hS_ => run_ld (Fr.has hS_ (hC136.get 0 rfl) (hC136.notin 0 0 rfl rfl)) rfl) hS137 ?_
          refine WD.call 3 (by kernel_rfl) rfl rfl rfl rfl rfl (by kernel_rfl) (health_ct (k + 1) w134) ?_
          rintro _ w142 ⟨rfl, hF141⟩
          have hS144 := hS137.trans hF141 (by simp)
          refine ⟨_, rfl, hS144, ?_⟩
          have hC143 := hC136.call hF141
          have hvs145 := vsAt_fr hvs138 hF141 (by simp)
          have ho146 := own_fr ho139 hF141 (by simp)
          have hl147 := logIn.fr hl140 hF141 (by simp)
          refine WD.new 4 (fun b => .slice (some ⟨b, 0, none⟩) 1 1) (.cells #[.int .i64 16, .int .i64 0, .int .i64 (k + 1), .int .i64 0, .int .i64 3, .int .u32 0, .int .i64 0, .int .i64 0, .slice none 0 0, .int .u32 167837697, .int .u32 0, .bool true] 61) (by kernel_rfl) rfl rfl rfl rfl rfl (fun _ => by kernel_rfl) (fun g148 w149 hb152 hl153 hF150 ho154 => ?_)
          have hC151 := hC143.callB hF150 hb152 ho154
          have hS155 := hS144.trans hF150 (by simp)
          refine ⟨hS155, ?_⟩
          have hvs156 := vsAt_fr hvs145 hF150 (by simp)
          have ho157 := own_fr ho146 hF150 (by simp)
          have hl158 := logIn.fr hl147 hF150 (by simp)
          rcases Classical.em (acceptE V e52.1 e52.2 (vals [(⟨⟨16, 0, (k + 1), 0, 3, 0, 0, 0, [], 167837697, 0, true⟩, none, 0⟩ : Cmd)]) = 0) with hE159 | hE159
          · skip
            refine WD.call 5 (by kernel_rfl) rfl rfl rfl rfl rfl (by kernel_rfl) (AccVS_yes FA p20 V sp19 N N 4194304 w149 hvs156 e52.1 e52.2 (some ⟨g148, 0, none⟩) 1 [(⟨⟨16, 0, (k + 1), 0, 3, 0, 0, 0, [], 167837697, 0, true⟩, none, 0⟩ : Cmd)] (hbi _ (List.mem_of_getElem? he53)).2 (Rd.blk (xs := [(⟨⟨16, 0, (k + 1), 0, 3, 0, 0, 0, [], 167837697, 0, true⟩, none, 0⟩ : Cmd)]) (hC151.get 3 rfl) cellsC_len rfl) (fun m_ hm_ => by rw [List.mem_singleton] at hm_; subst hm_; exact health_at ⟨by omega, by omega⟩ _) (tot_health _) hE159 (room_prep (by omega)) (room_acc (by omega) _ _ _)) ?_
            rintro _ w164 ⟨FA160, rfl, hF161, hvs162, hsub163⟩
            have hC165 := hC151.callF 0 rfl hF161 hsub163 (vsAt_lt hvs162)
            have hS166 := hS155.trans hF161 (fun x_ hx_ => .inl hx_)
            refine ⟨_, rfl, hS166, ?_⟩
            have ho167 := own_fr ho157 hF161 (hC151.disj 1 0 rfl rfl (by decide))
            have hl168 := logIn.fr hl158 hF161 (hC151.disj 2 0 rfl rfl (by decide))
            have hvsN169 : vsAt w164 FA160 p20 (⟨e52.1, e52.2, e52.1, e52.2, [⟨16, 0, k + 1, 0, 3, 0, 0, 0, [], 167837697, 0, true⟩], V.node⟩ : Vo) sp19 (putL (putL N kP (bytesN [e52.1, e52.2])) kV (bytesN [e52.1, e52.2] ++ bytesL [⟨16, 0, k + 1, 0, 3, 0, 0, 0, [], 167837697, 0, true⟩])) (putL (putL N kP (bytesN [e52.1, e52.2])) kV (bytesN [e52.1, e52.2] ++ bytesL [⟨16, 0, k + 1, 0, 3, 0, 0, 0, [], 167837697, 0, true⟩])) 4194304 := hvs162
            refine WD.pure (NoPanic.then (NoPanic.block (NoPanic.then (NoPanic.then (NoPanic.block (NoPanic.then hN)))))) 6 13 (.nilIface) (by kernel_rfl) (fun _ => by kernel_rfl) hS166 ?_
            refine WD.done (by kernel_rfl) ?_
            refine QX.then_normal (hK121 _ _ ?_)
            refine WC.seq (fun K170 hK171 => ?_)
            refine WC.seq (fun K172 hK173 => ?_)
            refine WC.drawC hC165 [] (by kernel_rfl) (fun w174 hF175 hC176 hS177 => ?_)
            have hvs178 := vsAt_fr hvsN169 hF175 (by simp)
            have ho179 := own_fr ho167 hF175 (by simp)
            have hl180 := logIn.fr hl168 hF175 (by simp)
            refine WD.pure (NoPanic.then (NoPanic.then (NoPanic.block (NoPanic.then (NoPanic.then (NoPanic.block (NoPanic.then hN))))))) 0 85 (.nilIface) (by kernel_rfl) (fun _ => by kernel_rfl) hS177 ?_
            refine WD.pure (NoPanic.then (NoPanic.then (NoPanic.block (NoPanic.then (NoPanic.then (NoPanic.block (NoPanic.then hN))))))) 1 86 (.bool true) (by kernel_rfl) (fun _ => by kernel_rfl) hS177 ?_
            refine WD.pure (NoPanic.then (NoPanic.then (NoPanic.block (NoPanic.then (NoPanic.then (NoPanic.block (NoPanic.then hN))))))) 2 87 (.bool true) (by kernel_rfl) (fun _ => by kernel_rfl) hS177 ?_
            refine WD.pure (NoPanic.then (NoPanic.then (NoPanic.block (NoPanic.then (NoPanic.then (NoPanic.block (NoPanic.then hN))))))) 3 88 (.pointer (some ⟨p20, 0, none⟩)) (by kernel_rfl) (fun _ => by kernel_rfl) hS177 ?_
            refine WD.load (NoPanic.then (NoPanic.then (NoPanic.block (NoPanic.then (NoPanic.then (NoPanic.block (NoPanic.then hN))))))) 5 50 (.pointer (some ⟨g58, 0, none⟩)) (.agg #[.int .i64 e52.1, .int .i64 e52.2]) 90 (by kernel_rfl) (by kernel_rfl) (fun _ hS_ => run_ld (Fr.has hS_ (hC176.get 0 rfl) (by simp)) rfl) hS177 ?_
            refine WD.call 4 (by kernel_rfl) rfl rfl rfl rfl rfl (by kernel_rfl) (PromVS FA160 p20 (⟨e52.1, e52.2, e52.1, e52.2, [⟨16, 0, k + 1, 0, 3, 0, 0, 0, [], 167837697, 0, true⟩], V.node⟩ : Vo) sp19 (putL (putL N kP (bytesN [e52.1, e52.2])) kV (bytesN [e52.1, e52.2] ++ bytesL [⟨16, 0, k + 1, 0, 3, 0, 0, 0, [], 167837697, 0, true⟩])) (putL (putL N kP (bytesN [e52.1, e52.2])) kV (bytesN [e52.1, e52.2] ++ bytesL [⟨16, 0, k + 1, 0, 3, 0, 0, 0, [], 167837697, 0, true⟩])) 4194304 w174 hvs178) ?_
            rintro _ w182 ⟨rfl, hF181⟩
            have hS184 := hS177.trans hF181 (by simp)
            refine ⟨_, rfl, hS184, ?_⟩
            have hC183 := hC176.call hF181
            have hvs185 := vsAt_fr hvs178 hF181 (by simp)
            have ho186 := own_fr ho179 hF181 (by simp)
            have hl187 := logIn.fr hl180 hF181 (by simp)
            have hr188 : ∀ w_, Sem.run Try.prog (do eqGuard .neq 50 (Operand.tmp 89) (Operand.tmp 90) (.agg #[.int .i64 e52.1, .int .i64 e52.2]) (.agg #[.int .i64 e52.1, .int .i64 e52.2]); binOp .neq 50 (.agg #[.int .i64 e52.1, .int .i64 e52.2]) (.agg #[.int .i64 e52.1, .int .i64 e52.2])) w_ = .ok (.bool (!(e52.1 == e52.1 && (e52.2 == e52.2 && true)))) w_ := fun w_ => (run_neq_S (by kernel_rfl))
            refine WD.semP (NoPanic.then (NoPanic.then (NoPanic.block (NoPanic.then (NoPanic.then (NoPanic.block (NoPanic.then hN))))))) 6 (do eqGuard .neq 50 (Operand.tmp 89) (Operand.tmp 90) (.agg #[.int .i64 e52.1, .int .i64 e52.2]) (.agg #[.int .i64 e52.1, .int .i64 e52.2]); binOp .neq 50 (.agg #[.int .i64 e52.1, .int .i64 e52.2]) (.agg #[.int .i64 e52.1, .int .i64 e52.2])) 91 (.bool (!(e52.1 == e52.1 && (e52.2 == e52.2 && true)))) (by kernel_rfl) (by kernel_rfl) (fun _ _ => hr188 _) hS184 ?_
            refine WD.pure (NoPanic.then (NoPanic.then (NoPanic.block (NoPanic.then (NoPanic.then (NoPanic.block (NoPanic.then hN))))))) 7 92 (.bool (!(e52.1 == e52.1 && (e52.2 == e52.2 && true)))) (by kernel_rfl) (fun _ => by kernel_rfl) hS184 ?_
            refine WD.know 92 (.bool (!(e52.1 == e52.1 && (e52.2 == e52.2 && true)))) (.bool false) rfl (congrArg Value.bool (by simp)) ?_
            refine WD.load (NoPanic.then (NoPanic.then (NoPanic.block (NoPanic.then (NoPanic.then (NoPanic.block (NoPanic.then hN))))))) 8 50 (.pointer (some ⟨g58, 0, none⟩)) (.agg #[.int .i64 e52.1, .int .i64 e52.2]) 93 (by kernel_rfl) (by kernel_rfl) (fun _ hS_ => run_ld (Fr.has hS_ (hC176.get 0 rfl) (by simp)) rfl) hS184 ?_
            refine WD.load (NoPanic.then (NoPanic.then (NoPanic.block (NoPanic.then (NoPanic.then (NoPanic.block (NoPanic.then hN))))))) 9 50 (.pointer (some ⟨g75, 0, none⟩)) (.agg #[.int .i64 V.pn, .int .i64 V.pd]) 94 (by kernel_rfl) (by kernel_rfl) (fun _ hS_ => run_ld (Fr.has hS_ (hC176.get 1 rfl) (by simp)) rfl) hS184 ?_
            refine WD.call 10 (by kernel_rfl) rfl rfl rfl rfl rfl (by kernel_rfl) (Less_ct e52.1 e52.2 V.pn V.pd w182) ?_
            rintro _ w190 ⟨rfl, hF189⟩
            have hS192 := hS184.trans hF189 (by simp)
            refine ⟨_, rfl, hS192, ?_⟩
            have hC191 := hC183.call hF189
            have hvs193 := vsAt_fr hvs185 hF189 (by simp)
            have ho194 := own_fr ho186 hF189 (by simp)
            have hl195 := logIn.fr hl187 hF189 (by simp)
            refine WD.pure (NoPanic.then (NoPanic.then (NoPanic.block (NoPanic.then (NoPanic.then (NoPanic.block (NoPanic.then hN))))))) 11 96 (.bool (lessB e52.1 e52.2 V.pn V.pd)) (by kernel_rfl) (fun _ => by kernel_rfl) hS192 ?_
            refine WD.pure (NoPanic.then (NoPanic.then (NoPanic.block (NoPanic.then (NoPanic.then (NoPanic.block (NoPanic.then hN))))))) 12 97 (.bool (lessB e52.1 e52.2 V.pn V.pd)) (by kernel_rfl) (fun _ => by kernel_rfl) hS192 ?_
            refine WD.pure (NoPanic.then (NoPanic.then (NoPanic.block (NoPanic.then (NoPanic.then (NoPanic.block (NoPanic.then hN))))))) 13 98 (.bool (lessB e52.1 e52.2 V.pn V.pd)) (by kernel_rfl) (fun _ => by kernel_rfl) hS192 ?_
            refine WD.know 98 (.bool (lessB e52.1 e52.2 V.pn V.pd)) (.bool false) rfl (congrArg Value.bool (by exact (asked_yes (accept_yes hE159).1).2)) ?_
            refine WD.pure (NoPanic.then (NoPanic.then (NoPanic.block (NoPanic.then (NoPanic.then (NoPanic.block (NoPanic.then hN))))))) 14 99 (.nilIface) (by kernel_rfl) (fun _ => by kernel_rfl) hS192 ?_
            refine WD.pure (NoPanic.then (NoPanic.then (NoPanic.block (NoPanic.then (NoPanic.then (NoPanic.block (NoPanic.then hN))))))) 15 100 (.bool false) (by kernel_rfl) (fun _ => by kernel_rfl) hS192 ?_
            refine WD.pure (NoPanic.then (NoPanic.then (NoPanic.block (NoPanic.then (NoPanic.then (NoPanic.block (NoPanic.then hN))))))) 16 101 (.bool false) (by kernel_rfl) (fun _ => by kernel_rfl) hS192 ?_
            refine WD.pure (NoPanic.then (NoPanic.then (NoPanic.block (NoPanic.then (NoPanic.then (NoPanic.block (NoPanic.then hN))))))) 17 102 (undef) (by kernel_rfl) (fun _ => by kernel_rfl) hS192 ?_
            refine WD.pure (NoPanic.then (NoPanic.then (NoPanic.block (NoPanic.then (NoPanic.then (NoPanic.block (NoPanic.then hN))))))) 18 103 (undef) (by kernel_rfl) (fun _ => by kernel_rfl) hS192 ?_
            refine WD.pure (NoPanic.then (NoPanic.then (NoPanic.block (NoPanic.then (NoPanic.then (NoPanic.block (NoPanic.then hN))))))) 19 104 (undef) (by kernel_rfl) (fun _ => by kernel_rfl) hS192 ?_
            refine WD.pure (NoPanic.then (NoPanic.then (NoPanic.block (NoPanic.then (NoPanic.then (NoPanic.block (NoPanic.then hN))))))) 20 105 (undef) (by kernel_rfl) (fun _ => by kernel_rfl) hS192 ?_
            refine WD.pure (NoPanic.then (NoPanic.then (NoPanic.block (NoPanic.then (NoPanic.then (NoPanic.block (NoPanic.then hN))))))) 21 106 (.bool false) (by kernel_rfl) (fun _ => by kernel_rfl) hS192 ?_
            refine WD.pure (NoPanic.then (NoPanic.then (NoPanic.block (NoPanic.then (NoPanic.then (NoPanic.block (NoPanic.then hN))))))) 22 107 (.bool false) (by kernel_rfl) (fun _ => by kernel_rfl) hS192 ?_
            refine WD.done (by kernel_rfl) ?_
            refine QX.then_normal (hK173 _ _ ?_)
            refine WC.cond_false rfl ?_
            refine WC.skip ?_
            refine QX.then_normal (hK171 _ _ ?_)
            refine WC.seq (fun K196 hK197 => ?_)
            refine WC.seq (fun K198 hK199 => ?_)
            refine WC.region ?_
            refine WL.runs 9 [(116, .bool false), (115, undef), (114, undef), (113, undef), (112, undef), (111, .bool false), (110, .bool false), (109, .iface 35 (.int .i64 8)), (108, .nilIface)] (fun _ => by kernel_rfl) ?_
            refine WL.done rfl ?_
            refine QX.then_normal (hK199 _ _ ?_)
            refine WC.cond_false rfl ?_
            refine WC.skip ?_
            refine QX.then_normal (hK197 _ _ ?_)
            refine WC.seq (fun K200 hK201 => ?_)
            refine WC.region ?_
            refine WL.runs 1 [(118, .pointer (some ⟨p20, 0, none⟩))] (fun _ => by kernel_rfl) ?_
            refine WL.call rfl rfl rfl rfl rfl (by kernel_rfl) (AcceptedVS FA160 p20 (⟨e52.1, e52.2, e52.1, e52.2, [⟨16, 0, k + 1, 0, 3, 0, 0, 0, [], 167837697, 0, true⟩], V.node⟩ : Vo) sp19 (putL (putL N kP (bytesN [e52.1, e52.2])) kV (bytesN [e52.1, e52.2] ++ bytesL [⟨16, 0, k + 1, 0, 3, 0, 0, 0, [], 167837697, 0, true⟩])) (putL (putL N kP (bytesN [e52.1, e52.2])) kV (bytesN [e52.1, e52.2] ++ bytesL [⟨16, 0, k + 1, 0, 3, 0, 0, 0, [], 167837697, 0, true⟩])) 4194304 w190 hvs193) ?_
            rintro _ w212 ⟨A202, c203, L204, R205, rfl, hF206, ho207, hli208, hvv209, hRg210, hgr211⟩
            have hC213 := callNN hC191 hF206 (own_ge ho207) (own_lt ho207) (fun x_ h_ => (hRg210 x_ h_).1) (fun x_ h_ => (hRg210 x_ h_).2) hgr211
            refine ⟨_, rfl, ?_⟩
            have hvs214 := vsAt_fr hvs193 hF206 (by simp)
            have ho215 := own_fr ho194 hF206 (by simp)
            have hl216 := logIn.fr hl195 hF206 (by simp)
            have ho217 := own_base (b' := 0) ho207 (fun _ _ => Nat.zero_le _)
            have hvvN_L204 : vals L204 = ([⟨16, 0, k + 1, 0, 3, 0, 0, 0, [], 167837697, 0, true⟩] : List CmdV) := hvv209
            have hll_L204 : L204.length = ([⟨16, 0, k + 1, 0, 3, 0, 0, 0, [], 167837697, 0, true⟩] : List CmdV).length := by rw [← vals_len, hvvN_L204]
            refine WL.runs 3 [(121, .slice A202 L204.length c203), (120, .agg #[.int .i64 e52.1, .int .i64 e52.2]), (117, .tuple #[.agg #[.int .i64 e52.1, .int .i64 e52.2], .slice A202 L204.length c203])] (fun _ => by kernel_rfl) ?_
            refine WL.newM hC213 (fun b => .pointer (some ⟨b, 0, none⟩)) (.cells #[.int .i64 0, .int .i64 0] 50) 16 (fun _ => by kernel_rfl) (fun g219 w220 hb223 hF221 hC222 => ?_)
            have hvs224 := vsAt_fr hvs214 hF221 (by simp)
            have ho225 := own_fr ho215 hF221 (by simp)
            have hl226 := logIn.fr hl216 hF221 (by simp)
            have ho227 := own_fr ho217 hF221 (by simp)
            have hl228 := logIn.fr hli208 hF221 (by simp)
            refine WL.storeM (c' := #[.int .i64 e52.1, .int .i64 e52.2]) hC222 4 50 g219 0 (.agg #[.int .i64 e52.1, .int .i64 e52.2]) (by kernel_rfl) rfl (by kernel_rfl) (fun w229 hF231 hC232 => ?_)
            have hvs233 := vsAt_fr hvs224 hF231 (hC222.apartM 0 4 rfl rfl)
            have ho234 := own_fr ho225 hF231 (hC222.apartM 1 4 rfl rfl)
            have hl235 := logIn.fr hl226 hF231 (hC222.apartM 2 4 rfl rfl)
            have ho236 := own_fr ho227 hF231 (hC222.apartM 3 4 rfl rfl)
            have hl237 := logIn.fr hl228 hF231 (hC222.apartM 4 4 rfl rfl)
            refine WL.runs 1 [(17, .slice A202 L204.length c203)] (fun _ => by kernel_rfl) ?_
            refine WL.done rfl ?_
            refine QX.then_normal (hK201 _ _ ?_)
            refine WC.seq (fun K238 hK239 => ?_)
            refine WC.seq (fun K240 hK241 => ?_)
            refine WC.region ?_
            refine WL.runs 5 [(126, .bool (decide ((i : Int) < (ks.length : Int)))), (125, .bool (decide ((i : Int) < (ks.length : Int)))), (124, .int .i64 (ks.length : Int)), (123, .slice B ks.length c2), (122, .int .i64 (i : Int))] (fun _ => by kernel_rfl) ?_
            refine WL.know 126 (.bool (decide ((i : Int) < (ks.length : Int)))) (.bool true) rfl (congrArg Value.bool (by exact t124b)) ?_
            refine WL.runs 2 [(128, .int .i64 (i : Int)), (127, .slice B ks.length c2)] (fun _ => by kernel_rfl) ?_
            refine WL.index B ks.length c2 129 .i64 (i : Int) b127 o129 i 1 (by kernel_rfl) hA128 (by omega) (by omega) (o129 + i) (by first | (simp; done) | omega) ?_
            refine WL.load 4 (.pointer (some ⟨b127, o129 + i, none⟩)) (.bool e125) 130 (by kernel_rfl) (run_load1 rfl (by simpa [Nat.add_assoc] using hC232.fr.cell (hc130 0 _ rfl) (by simp))) ?_
            refine WL.runs 2 [(132, .bool e125), (131, .bool e125)] (fun _ => by kernel_rfl) ?_
            refine WL.know 132 (.bool e125) (.bool true) rfl (congrArg Value.bool (by exact t131b)) ?_
            refine WL.runs 4 [(136, .bool true), (135, .bool true), (134, .bool true), (133, .nilIface)] (fun _ => by kernel_rfl) ?_
            refine WL.load 50 (.pointer (some ⟨g219, 0, none⟩)) (.agg #[.int .i64 e52.1, .int .i64 e52.2]) 137 (by kernel_rfl) (run_ld (hC232.get 4 rfl) rfl) ?_
            refine WL.load 50 (.pointer (some ⟨g58, 0, none⟩)) (.agg #[.int .i64 e52.1, .int .i64 e52.2]) 138 (by kernel_rfl) (run_ld (hC232.get 0 rfl) rfl) ?_
            have hr246 : ∀ w_, Sem.run Try.prog (do eqGuard .neq 50 (Operand.tmp 137) (Operand.tmp 138) (.agg #[.int .i64 e52.1, .int .i64 e52.2]) (.agg #[.int .i64 e52.1, .int .i64 e52.2]); binOp .neq 50 (.agg #[.int .i64 e52.1, .int .i64 e52.2]) (.agg #[.int .i64 e52.1, .int .i64 e52.2])) w_ = .ok (.bool (!(e52.1 == e52.1 && (e52.2 == e52.2 && true)))) w_ := fun w_ => (run_neq_S (by kernel_rfl))
            refine WL.sem (do eqGuard .neq 50 (Operand.tmp 137) (Operand.tmp 138) (.agg #[.int .i64 e52.1, .int .i64 e52.2]) (.agg #[.int .i64 e52.1, .int .i64 e52.2]); binOp .neq 50 (.agg #[.int .i64 e52.1, .int .i64 e52.2]) (.agg #[.int .i64 e52.1, .int .i64 e52.2])) 139 (.bool (!(e52.1 == e52.1 && (e52.2 == e52.2 && true)))) (by kernel_rfl) (hr246 _) ?_
            refine WL.runs 1 [(140, .bool (!(e52.1 == e52.1 && (e52.2 == e52.2 && true))))] (fun _ => by kernel_rfl) ?_
            refine WL.know 140 (.bool (!(e52.1 == e52.1 && (e52.2 == e52.2 && true)))) (.bool false) rfl (congrArg Value.bool (by simp)) ?_
            refine WL.runs 5 [(145, .bool ((L204.length : Int) != 1)), (144, .bool ((L204.length : Int) != 1)), (143, .bool ((L204.length : Int) != 1)), (142, .int .i64 (L204.length : Int)), (141, .slice A202 L204.length c203)] (fun _ => by kernel_rfl) ?_
            refine WL.know 145 (.bool ((L204.length : Int) != 1)) (.bool false) rfl (congrArg Value.bool (by simp [hll_L204])) ?_
            refine WL.runs 1 [(146, .slice A202 L204.length c203)] (fun _ => by kernel_rfl) ?_
            have hlz_ := hll_L204
            simp only [List.length_cons, List.length_nil] at hlz_
            have hn251 := own_count cellsC_len (by decide) ho236
            obtain ⟨e247, he248⟩ := get_some (xs := L204) (i := 0) (by omega)
            obtain ⟨b249, hA250⟩ := own_addr (by decide) cellsC_len ho236 he248
            refine WL.index A202 L204.length c203 147 .i64 0 b249 0 0 12 (by kernel_rfl) hA250 (by omega) (by omega) 0 (by first | (simp; done) | omega) ?_
            refine WL.runs 1 [(148, .pointer (some ⟨b249, 2, none⟩))] (fun _ => by kernel_rfl) ?_
            refine WL.load 3 (.pointer (some ⟨b249, 2, none⟩)) (.int .i64 e247.v.seq) 149 (by kernel_rfl) (run_load1 rfl (by simpa [Nat.add_assoc] using Rd.cell (own_rd ho236 cellsC_len (by decide)) hA250 he248 2 _ rfl)) ?_
            refine WL.runs 4 [(153, .bool (e247.v.seq != (k + 1))), (152, .bool (e247.v.seq != (k + 1))), (151, .bool (e247.v.seq != (k + 1))), (150, .int .i64 (k + 1))] (fun _ => by kernel_rfl) ?_
            refine WL.done rfl ?_
            refine QX.then_normal (hK241 _ _ ?_)
            refine WC.know 153 (.bool (e247.v.seq != (k + 1))) (.bool false) rfl (congrArg Value.bool (by have z_ := vals_get he248; rw [hvvN_L204] at z_; simp at z_; simp [← z_])) ?_
            refine WC.cond_false rfl ?_
            refine WC.skip ?_
            refine QX.then_normal (hK239 _ _ ?_)
            refine WC.seq (fun K252 hK253 => ?_)
            refine WC.drawC hC232 [] (by kernel_rfl) (fun w254 hF255 hC256 hS257 => ?_)
            have hvs258 := vsAt_fr hvs233 hF255 (by simp)
            have ho259 := own_fr ho234 hF255 (by simp)
            have hl260 := logIn.fr hl235 hF255 (by simp)
            have ho261 := own_fr ho236 hF255 (by simp)
            have hl262 := logIn.fr hl237 hF255 (by simp)
            refine WD.pure (NoPanic.then (NoPanic.block (NoPanic.then (NoPanic.then (NoPanic.block (NoPanic.then hN)))))) 0 154 (.pointer (some ⟨p20, 0, none⟩)) (by kernel_rfl) (fun _ => by kernel_rfl) hS257 ?_
            refine WD.load (NoPanic.then (NoPanic.block (NoPanic.then (NoPanic.then (NoPanic.block (NoPanic.then hN)))))) 2 50 (.pointer (some ⟨g219, 0, none⟩)) (.agg #[.int .i64 e52.1, .int .i64 e52.2]) 156 (by kernel_rfl) (by kernel_rfl) (fun _ hS_ => run_ld (Fr.has hS_ (hC256.get 4 rfl) (by simp)) rfl) hS257 ?_
            refine WD.call 1 (by kernel_rfl) rfl rfl rfl rfl rfl (by kernel_rfl) (PromVS FA160 p20 (⟨e52.1, e52.2, e52.1, e52.2, [⟨16, 0, k + 1, 0, 3, 0, 0, 0, [], 167837697, 0, true⟩], V.node⟩ : Vo) sp19 (putL (putL N kP (bytesN [e52.1, e52.2])) kV (bytesN [e52.1, e52.2] ++ bytesL [⟨16, 0, k + 1, 0, 3, 0, 0, 0, [], 167837697, 0, true⟩])) (putL (putL N kP (bytesN [e52.1, e52.2])) kV (bytesN [e52.1, e52.2] ++ bytesL [⟨16, 0, k + 1, 0, 3, 0, 0, 0, [], 167837697, 0, true⟩])) 4194304 w254 hvs258) ?_
            rintro _ w264 ⟨rfl, hF263⟩
            have hS266 := hS257.trans hF263 (by simp)
            refine ⟨_, rfl, hS266, ?_⟩
            have hC265 := hC256.call hF263
            have hvs267 := vsAt_fr hvs258 hF263 (by simp)
            have ho268 := own_fr ho259 hF263 (by simp)
            have hl269 := logIn.fr hl260 hF263 (by simp)
            have ho270 := own_fr ho261 hF263 (by simp)
            have hl271 := logIn.fr hl262 hF263 (by simp)
            refine WD.call 3 (by kernel_rfl) rfl rfl rfl rfl rfl (by kernel_rfl) (Less_ct e52.1 e52.2 e52.1 e52.2 w264) ?_
            rintro _ w273 ⟨rfl, hF272⟩
            have hS275 := hS266.trans hF272 (by simp)
            refine ⟨_, rfl, hS275, ?_⟩
            have hC274 := hC265.call hF272
            have hvs276 := vsAt_fr hvs267 hF272 (by simp)
            have ho277 := own_fr ho268 hF272 (by simp)
            have hl278 := logIn.fr hl269 hF272 (by simp)
            have ho279 := own_fr ho270 hF272 (by simp)
            have hl280 := logIn.fr hl271 hF272 (by simp)
            refine WD.done (by kernel_rfl) ?_
            refine QX.then_normal (hK253 _ _ ?_)
            refine WC.know 157 (.bool (lessB e52.1 e52.2 e52.1 e52.2)) (.bool false) rfl (congrArg Value.bool (by exact less_self _ _)) ?_
            refine WC.cond_false rfl ?_
            refine WC.skip ?_
            refine QX.block_normal ?_
            refine QX.then_normal (hK49 _ _ ?_)
            refine WC.region ?_
            refine WL.runs 1 [(158, .int .i64 (IntKind.i64.wrap ((i : Int) + 1)))] (fun _ => by kernel_rfl) ?_
            refine WL.recast (show (.int .i64 (IntKind.i64.wrap ((i : Int) + 1)) : Value) = .int .i64 ((i : Int) + 1) from by rw [wrap_in_i64 ((i : Int) + 1) (by omega) (by omega)]) ?_
            refine WL.runs 1 [(35, .int .i64 ((i : Int) + 1))] (fun _ => by kernel_rfl) ?_
            refine WL.done rfl ?_
            refine QX.then_normal ?_
            have hC281 := hC274.pick [] [0] rfl rfl
            refine fun a_ ha_ => hK38 _ _ _ ?_ ⟨i + 1, k + 1, FA160, (⟨e52.1, e52.2, e52.1, e52.2, [⟨16, 0, k + 1, 0, 3, 0, 0, 0, [], 167837697, 0, true⟩], V.node⟩ : Vo), (putL (putL N kP (bytesN [e52.1, e52.2])) kV (bytesN [e52.1, e52.2] ++ bytesL [⟨16, 0, k + 1, 0, 3, 0, 0, 0, [], 167837697, 0, true⟩])), rfl, rfl, hC281, hvs276, by omega, by omega, by omega, less_self _ _, Nat.le_trans (used_acc N e52.1 e52.2 _) (by omega)⟩ a_ (ha_.weaken (sub_of ⟨rfl, rfl, rfl, rfl, rfl, rfl, rfl, rfl, trivial⟩))
            omega
          · skip
            refine WD.call 5 (by kernel_rfl) rfl rfl rfl rfl rfl (by kernel_rfl) (AccVS_no FA p20 V sp19 N N 4194304 w149 hvs156 e52.1 e52.2 (some ⟨g148, 0, none⟩) 1 [(⟨⟨16, 0, (k + 1), 0, 3, 0, 0, 0, [], 167837697, 0, true⟩, none, 0⟩ : Cmd)] (hbi _ (List.mem_of_getElem? he53)).2 (Rd.blk (xs := [(⟨⟨16, 0, (k + 1), 0, 3, 0, 0, 0, [], 167837697, 0, true⟩, none, 0⟩ : Cmd)]) (hC151.get 3 rfl) cellsC_len rfl) (fun m_ hm_ => by rw [List.mem_singleton] at hm_; subst hm_; exact health_at ⟨by omega, by omega⟩ _) hE159) ?_
            rintro _ w283 ⟨rfl, hF282⟩
            have hS285 := hS155.trans hF282 (by simp)
            refine ⟨_, rfl, hS285, ?_⟩
            have hC284 := hC151.call hF282
            have hvs286 := vsAt_fr hvs156 hF282 (by simp)
            have ho287 := own_fr ho157 hF282 (by simp)
            have hl288 := logIn.fr hl158 hF282 (by simp)
            refine WD.pure (NoPanic.then (NoPanic.block (NoPanic.then (NoPanic.then (NoPanic.block (NoPanic.then hN)))))) 6 13 (errV 35 (acceptE V e52.1 e52.2 (vals [(⟨⟨16, 0, (k + 1), 0, 3, 0, 0, 0, [], 167837697, 0, true⟩, none, 0⟩ : Cmd)]))) (by kernel_rfl) (fun _ => by kernel_rfl) hS285 ?_
            refine WD.done (by kernel_rfl) ?_
            refine QX.then_normal (hK121 _ _ ?_)
            refine WC.seq (fun K289 hK290 => ?_)
            refine WC.seq (fun K291 hK292 => ?_)
            refine WC.drawC hC284 [] (by kernel_rfl) (fun w293 hF294 hC295 hS296 => ?_)
            have hvs297 := vsAt_fr hvs286 hF294 (by simp)
            have ho298 := own_fr ho287 hF294 (by simp)
            have hl299 := logIn.fr hl288 hF294 (by simp)
            refine WD.pure (NoPanic.then (NoPanic.then (NoPanic.block (NoPanic.then (NoPanic.then (NoPanic.block (NoPanic.then hN))))))) 0 85 (errV 35 (acceptE V e52.1 e52.2 (vals [(⟨⟨16, 0, (k + 1), 0, 3, 0, 0, 0, [], 167837697, 0, true⟩, none, 0⟩ : Cmd)]))) (by kernel_rfl) (fun _ => by kernel_rfl) hS296 ?_
            have hr300 : ∀ w_, Sem.run Try.prog (do eqGuard .eql 27 (Operand.tmp 85) (Operand.const (.nilIface)) (errV 35 (acceptE V e52.1 e52.2 (vals [(⟨⟨16, 0, (k + 1), 0, 3, 0, 0, 0, [], 167837697, 0, true⟩, none, 0⟩ : Cmd)]))) (.nilIface); binOp .eql 27 (errV 35 (acceptE V e52.1 e52.2 (vals [(⟨⟨16, 0, (k + 1), 0, 3, 0, 0, 0, [], 167837697, 0, true⟩, none, 0⟩ : Cmd)]))) (.nilIface)) w_ = .ok (.bool (decide (acceptE V e52.1 e52.2 (vals [(⟨⟨16, 0, (k + 1), 0, 3, 0, 0, 0, [], 167837697, 0, true⟩, none, 0⟩ : Cmd)]) = 0))) w_ := fun w_ => (err_eql _ (acceptE V e52.1 e52.2 (vals [(⟨⟨16, 0, (k + 1), 0, 3, 0, 0, 0, [], 167837697, 0, true⟩, none, 0⟩ : Cmd)])) (decide (acceptE V e52.1 e52.2 (vals [(⟨⟨16, 0, (k + 1), 0, 3, 0, 0, 0, [], 167837697, 0, true⟩, none, 0⟩ : Cmd)]) = 0)) (by rfl) _)
            refine WD.semP (NoPanic.then (NoPanic.then (NoPanic.block (NoPanic.then (NoPanic.then (NoPanic.block (NoPanic.then hN))))))) 1 (do eqGuard .eql 27 (Operand.tmp 85) (Operand.const (.nilIface)) (errV 35 (acceptE V e52.1 e52.2 (vals [(⟨⟨16, 0, (k + 1), 0, 3, 0, 0, 0, [], 167837697, 0, true⟩, none, 0⟩ : Cmd)]))) (.nilIface); binOp .eql 27 (errV 35 (acceptE V e52.1 e52.2 (vals [(⟨⟨16, 0, (k + 1), 0, 3, 0, 0, 0, [], 167837697, 0, true⟩, none, 0⟩ : Cmd)]))) (.nilIface)) 86 (.bool (decide (acceptE V e52.1 e52.2 (vals [(⟨⟨16, 0, (k + 1), 0, 3, 0, 0, 0, [], 167837697, 0, true⟩, none, 0⟩ : Cmd)]) = 0))) (by kernel_rfl) (by kernel_rfl) (fun _ _ => hr300 _) hS296 ?_
            refine WD.pure (NoPanic.then (NoPanic.then (NoPanic.block (NoPanic.then (NoPanic.then (NoPanic.block (NoPanic.then hN))))))) 2 87 (.bool (decide (acceptE V e52.1 e52.2 (vals [(⟨⟨16, 0, (k + 1), 0, 3, 0, 0, 0, [], 167837697, 0, true⟩, none, 0⟩ : Cmd)]) = 0))) (by kernel_rfl) (fun _ => by kernel_rfl) hS296 ?_
            refine WD.know 87 (.bool (decide (acceptE V e52.1 e52.2 (vals [(⟨⟨16, 0, (k + 1), 0, 3, 0, 0, 0, [], 167837697, 0, true⟩, none, 0⟩ : Cmd)]) = 0))) (.bool false) rfl (congrArg Value.bool (by simp [hE159])) ?_
            refine WD.pure (NoPanic.then (NoPanic.then (NoPanic.block (NoPanic.then (NoPanic.then (NoPanic.block (NoPanic.then hN))))))) 3 88 (undef) (by kernel_rfl) (fun _ => by kernel_rfl) hS296 ?_
            refine WD.pure (NoPanic.then (NoPanic.then (NoPanic.block (NoPanic.then (NoPanic.then (NoPanic.block (NoPanic.then hN))))))) 4 89 (undef) (by kernel_rfl) (fun _ => by kernel_rfl) hS296 ?_
            refine WD.pure (NoPanic.then (NoPanic.then (NoPanic.block (NoPanic.then (NoPanic.then (NoPanic.block (NoPanic.then hN))))))) 5 90 (undef) (by kernel_rfl) (fun _ => by kernel_rfl) hS296 ?_
            refine WD.pure (NoPanic.then (NoPanic.then (NoPanic.block (NoPanic.then (NoPanic.then (NoPanic.block (NoPanic.then hN))))))) 6 91 (undef) (by kernel_rfl) (fun _ => by kernel_rfl) hS296 ?_
            refine WD.pure (NoPanic.then (NoPanic.then (NoPanic.block (NoPanic.then (NoPanic.then (NoPanic.block (NoPanic.then hN))))))) 7 92 (undef) (by kernel_rfl) (fun _ => by kernel_rfl) hS296 ?_
            refine WD.pure (NoPanic.then (NoPanic.then (NoPanic.block (NoPanic.then (NoPanic.then (NoPanic.block (NoPanic.then hN))))))) 8 93 (undef) (by kernel_rfl) (fun _ => by kernel_rfl) hS296 ?_
            refine WD.pure (NoPanic.then (NoPanic.then (NoPanic.block (NoPanic.then (NoPanic.then (NoPanic.block (NoPanic.then hN))))))) 9 94 (undef) (by kernel_rfl) (fun _ => by kernel_rfl) hS296 ?_
            refine WD.pure (NoPanic.then (NoPanic.then (NoPanic.block (NoPanic.then (NoPanic.then (NoPanic.block (NoPanic.then hN))))))) 10 95 (undef) (by kernel_rfl) (fun _ => by kernel_rfl) hS296 ?_
            refine WD.pure (NoPanic.then (NoPanic.then (NoPanic.block (NoPanic.then (NoPanic.then (NoPanic.block (NoPanic.then hN))))))) 11 96 (undef) (by kernel_rfl) (fun _ => by kernel_rfl) hS296 ?_
            refine WD.pure (NoPanic.then (NoPanic.then (NoPanic.block (NoPanic.then (NoPanic.then (NoPanic.block (NoPanic.then hN))))))) 12 97 (.bool false) (by kernel_rfl) (fun _ => by kernel_rfl) hS296 ?_
            refine WD.pure (NoPanic.then (NoPanic.then (NoPanic.block (NoPanic.then (NoPanic.then (NoPanic.block (NoPanic.then hN))))))) 13 98 (.bool false) (by kernel_rfl) (fun _ => by kernel_rfl) hS296 ?_
            refine WD.pure (NoPanic.then (NoPanic.then (NoPanic.block (NoPanic.then (NoPanic.then (NoPanic.block (NoPanic.then hN))))))) 14 99 (errV 35 (acceptE V e52.1 e52.2 (vals [(⟨⟨16, 0, (k + 1), 0, 3, 0, 0, 0, [], 167837697, 0, true⟩, none, 0⟩ : Cmd)]))) (by kernel_rfl) (fun _ => by kernel_rfl) hS296 ?_
            have hr301 : ∀ w_, Sem.run Try.prog (do eqGuard .neq 27 (Operand.tmp 99) (Operand.const (.nilIface)) (errV 35 (acceptE V e52.1 e52.2 (vals [(⟨⟨16, 0, (k + 1), 0, 3, 0, 0, 0, [], 167837697, 0, true⟩, none, 0⟩ : Cmd)]))) (.nilIface); binOp .neq 27 (errV 35 (acceptE V e52.1 e52.2 (vals [(⟨⟨16, 0, (k + 1), 0, 3, 0, 0, 0, [], 167837697, 0, true⟩, none, 0⟩ : Cmd)]))) (.nilIface)) w_ = .ok (.bool (!(decide (acceptE V e52.1 e52.2 (vals [(⟨⟨16, 0, (k + 1), 0, 3, 0, 0, 0, [], 167837697, 0, true⟩, none, 0⟩ : Cmd)]) = 0)))) w_ := fun w_ => (err_neq _ (acceptE V e52.1 e52.2 (vals [(⟨⟨16, 0, (k + 1), 0, 3, 0, 0, 0, [], 167837697, 0, true⟩, none, 0⟩ : Cmd)])) (decide (acceptE V e52.1 e52.2 (vals [(⟨⟨16, 0, (k + 1), 0, 3, 0, 0, 0, [], 167837697, 0, true⟩, none, 0⟩ : Cmd)]) = 0)) (by rfl) _)
            refine WD.semP (NoPanic.then (NoPanic.then (NoPanic.block (NoPanic.then (NoPanic.then (NoPanic.block (NoPanic.then hN))))))) 15 (do eqGuard .neq 27 (Operand.tmp 99) (Operand.const (.nilIface)) (errV 35 (acceptE V e52.1 e52.2 (vals [(⟨⟨16, 0, (k + 1), 0, 3, 0, 0, 0, [], 167837697, 0, true⟩, none, 0⟩ : Cmd)]))) (.nilIface); binOp .neq 27 (errV 35 (acceptE V e52.1 e52.2 (vals [(⟨⟨16, 0, (k + 1), 0, 3, 0, 0, 0, [], 167837697, 0, true⟩, none, 0⟩ : Cmd)]))) (.nilIface)) 100 (.bool (!(decide (acceptE V e52.1 e52.2 (vals [(⟨⟨16, 0, (k + 1), 0, 3, 0, 0, 0, [], 167837697, 0, true⟩, none, 0⟩ : Cmd)]) = 0)))) (by kernel_rfl) (by kernel_rfl) (fun _ _ => hr301 _) hS296 ?_
            refine WD.pure (NoPanic.then (NoPanic.then (NoPanic.block (NoPanic.then (NoPanic.then (NoPanic.block (NoPanic.then hN))))))) 16 101 (.bool (!(decide (acceptE V e52.1 e52.2 (vals [(⟨⟨16, 0, (k + 1), 0, 3, 0, 0, 0, [], 167837697, 0, true⟩, none, 0⟩ : Cmd)]) = 0)))) (by kernel_rfl) (fun _ => by kernel_rfl) hS296 ?_
            refine WD.know 101 (.bool (!(decide (acceptE V e52.1 e52.2 (vals [(⟨⟨16, 0, (k + 1), 0, 3, 0, 0, 0, [], 167837697, 0, true⟩, none, 0⟩ : Cmd)]) = 0)))) (.bool true) rfl (congrArg Value.bool (by simp [hE159])) ?_
            refine WD.pure (NoPanic.then (NoPanic.then (NoPanic.block (NoPanic.then (NoPanic.then (NoPanic.block (NoPanic.then hN))))))) 17 102 (.pointer (some ⟨p20, 0, none⟩)) (by kernel_rfl) (fun _ => by kernel_rfl) hS296 ?_
            refine WD.load (NoPanic.then (NoPanic.then (NoPanic.block (NoPanic.then (NoPanic.then (NoPanic.block (NoPanic.then hN))))))) 19 50 (.pointer (some ⟨g75, 0, none⟩)) (.agg #[.int .i64 V.pn, .int .i64 V.pd]) 104 (by kernel_rfl) (by kernel_rfl) (fun _ hS_ => run_ld (Fr.has hS_ (hC295.get 1 rfl) (by simp)) rfl) hS296 ?_
            refine WD.call 18 (by kernel_rfl) rfl rfl rfl rfl rfl (by kernel_rfl) (PromVS FA p20 V sp19 N N 4194304 w293 hvs297) ?_
            rintro _ w303 ⟨rfl, hF302⟩
            have hS305 := hS296.trans hF302 (by simp)
            refine ⟨_, rfl, hS305, ?_⟩
            have hC304 := hC295.call hF302
            have hvs306 := vsAt_fr hvs297 hF302 (by simp)
            have ho307 := own_fr ho298 hF302 (by simp)
            have hl308 := logIn.fr hl299 hF302 (by simp)
            have hr309 : ∀ w_, Sem.run Try.prog (do eqGuard .neq 50 (Operand.tmp 103) (Operand.tmp 104) (.agg #[.int .i64 V.pn, .int .i64 V.pd]) (.agg #[.int .i64 V.pn, .int .i64 V.pd]); binOp .neq 50 (.agg #[.int .i64 V.pn, .int .i64 V.pd]) (.agg #[.int .i64 V.pn, .int .i64 V.pd])) w_ = .ok (.bool (!(V.pn == V.pn && (V.pd == V.pd && true)))) w_ := fun w_ => (run_neq_S (by kernel_rfl))
            refine WD.semP (NoPanic.then (NoPanic.then (NoPanic.block (NoPanic.then (NoPanic.then (NoPanic.block (NoPanic.then hN))))))) 20 (do eqGuard .neq 50 (Operand.tmp 103) (Operand.tmp 104) (.agg #[.int .i64 V.pn, .int .i64 V.pd]) (.agg #[.int .i64 V.pn, .int .i64 V.pd]); binOp .neq 50 (.agg #[.int .i64 V.pn, .int .i64 V.pd]) (.agg #[.int .i64 V.pn, .int .i64 V.pd])) 105 (.bool (!(V.pn == V.pn && (V.pd == V.pd && true)))) (by kernel_rfl) (by kernel_rfl) (fun _ _ => hr309 _) hS305 ?_
            refine WD.pure (NoPanic.then (NoPanic.then (NoPanic.block (NoPanic.then (NoPanic.then (NoPanic.block (NoPanic.then hN))))))) 21 106 (.bool (!(V.pn == V.pn && (V.pd == V.pd && true)))) (by kernel_rfl) (fun _ => by kernel_rfl) hS305 ?_
            refine WD.pure (NoPanic.then (NoPanic.then (NoPanic.block (NoPanic.then (NoPanic.then (NoPanic.block (NoPanic.then hN))))))) 22 107 (.bool (!(V.pn == V.pn && (V.pd == V.pd && true)))) (by kernel_rfl) (fun _ => by kernel_rfl) hS305 ?_
            refine WD.done (by kernel_rfl) ?_
            refine QX.then_normal (hK292 _ _ ?_)
            refine WC.know 107 (.bool (!(V.pn == V.pn && (V.pd == V.pd && true)))) (.bool false) rfl (congrArg Value.bool (by simp)) ?_
            refine WC.cond_false rfl ?_
            refine WC.skip ?_
            refine QX.then_normal (hK290 _ _ ?_)
            refine WC.seq (fun K310 hK311 => ?_)
            refine WC.seq (fun K312 hK313 => ?_)
            refine WC.region ?_
            refine WL.runs 2 [(109, .iface 35 (.int .i64 8)), (108, errV 35 (acceptE V e52.1 e52.2 (vals [(⟨⟨16, 0, (k + 1), 0, 3, 0, 0, 0, [], 167837697, 0, true⟩, none, 0⟩ : Cmd)])))] (fun _ => by kernel_rfl) ?_
            have hr314 : ∀ w_, Sem.run Try.prog (do eqGuard .eql 27 (Operand.tmp 108) (Operand.tmp 109) (errV 35 (acceptE V e52.1 e52.2 (vals [(⟨⟨16, 0, (k + 1), 0, 3, 0, 0, 0, [], 167837697, 0, true⟩, none, 0⟩ : Cmd)]))) (.iface 35 (.int .i64 8)); binOp .eql 27 (errV 35 (acceptE V e52.1 e52.2 (vals [(⟨⟨16, 0, (k + 1), 0, 3, 0, 0, 0, [], 167837697, 0, true⟩, none, 0⟩ : Cmd)]))) (.iface 35 (.int .i64 8))) w_ = .ok (.bool (decide ((acceptE V e52.1 e52.2 (vals [(⟨⟨16, 0, (k + 1), 0, 3, 0, 0, 0, [], 167837697, 0, true⟩, none, 0⟩ : Cmd)])) = (8 : Int)))) w_ := fun w_ => (err_eqlc _ _ (acceptE V e52.1 e52.2 (vals [(⟨⟨16, 0, (k + 1), 0, 3, 0, 0, 0, [], 167837697, 0, true⟩, none, 0⟩ : Cmd)])) 8 (by decide) _)
            refine WL.sem (do eqGuard .eql 27 (Operand.tmp 108) (Operand.tmp 109) (errV 35 (acceptE V e52.1 e52.2 (vals [(⟨⟨16, 0, (k + 1), 0, 3, 0, 0, 0, [], 167837697, 0, true⟩, none, 0⟩ : Cmd)]))) (.iface 35 (.int .i64 8)); binOp .eql 27 (errV 35 (acceptE V e52.1 e52.2 (vals [(⟨⟨16, 0, (k + 1), 0, 3, 0, 0, 0, [], 167837697, 0, true⟩, none, 0⟩ : Cmd)]))) (.iface 35 (.int .i64 8))) 110 (.bool (decide ((acceptE V e52.1 e52.2 (vals [(⟨⟨16, 0, (k + 1), 0, 3, 0, 0, 0, [], 167837697, 0, true⟩, none, 0⟩ : Cmd)])) = (8 : Int)))) (by kernel_rfl) (hr314 _) ?_
            refine WL.runs 1 [(111, .bool (decide ((acceptE V e52.1 e52.2 (vals [(⟨⟨16, 0, (k + 1), 0, 3, 0, 0, 0, [], 167837697, 0, true⟩, none, 0⟩ : Cmd)])) = (8 : Int))))] (fun _ => by kernel_rfl) ?_
            refine WL.test_at 111 (decide ((acceptE V e52.1 e52.2 (vals [(⟨⟨16, 0, (k + 1), 0, 3, 0, 0, 0, [], 167837697, 0, true⟩, none, 0⟩ : Cmd)])) = (8 : Int))) rfl (fun t315b => ?_) (fun t315b => ?_)
            · -- (acceptE V e52.1 e52.2 (vals [(⟨⟨16, 0, (k + 1), 0, 3, 0, 0, 0, [], 167837697, 0, true⟩, none, 0⟩ : Cmd)])) = (8 : Int): true
              have t315 : (acceptE V e52.1 e52.2 (vals [(⟨⟨16, 0, (k + 1), 0, 3, 0, 0, 0, [], 167837697, 0, true⟩, none, 0⟩ : Cmd)])) = (8 : Int) := of_decide_eq_true t315b
              refine WL.load 50 (.pointer (some ⟨g58, 0, none⟩)) (.agg #[.int .i64 e52.1, .int .i64 e52.2]) 112 (by kernel_rfl) (run_ld (hC304.get 0 rfl) rfl) ?_
              refine WL.load 50 (.pointer (some ⟨g75, 0, none⟩)) (.agg #[.int .i64 V.pn, .int .i64 V.pd]) 113 (by kernel_rfl) (run_ld (hC304.get 1 rfl) rfl) ?_
              refine WL.call rfl rfl rfl rfl rfl (by kernel_rfl) (Less_ct e52.1 e52.2 V.pn V.pd w303) ?_
              rintro _ w317 ⟨rfl, hF316⟩
              refine ⟨_, rfl, ?_⟩
              have hC318 := hC304.call hF316
              have hvs319 := vsAt_fr hvs306 hF316 (by simp)
              have ho320 := own_fr ho307 hF316 (by simp)
              have hl321 := logIn.fr hl308 hF316 (by simp)
              refine WL.runs 2 [(116, .bool (!(lessB e52.1 e52.2 V.pn V.pd))), (115, .bool (!(lessB e52.1 e52.2 V.pn V.pd)))] (fun _ => by kernel_rfl) ?_
              refine WL.done rfl ?_
              refine QX.then_normal (hK313 _ _ ?_)
              refine WC.know 116 (.bool (!(lessB e52.1 e52.2 V.pn V.pd))) (.bool false) rfl (congrArg Value.bool (by rw [show lessB _ _ _ _ = true from accept_low (of_decide_eq_true t315b)]; rfl)) ?_
              refine WC.cond_false rfl ?_
              refine WC.skip ?_
              refine QX.then_normal (hK311 _ _ ?_)
              refine WC.seq (fun K322 hK323 => ?_)
              refine WC.region ?_
              refine WL.runs 1 [(118, .pointer (some ⟨p20, 0, none⟩))] (fun _ => by kernel_rfl) ?_
              refine WL.call rfl rfl rfl rfl rfl (by kernel_rfl) (AcceptedVS FA p20 V sp19 N N 4194304 w317 hvs319) ?_
              rintro _ w334 ⟨A324, c325, L326, R327, rfl, hF328, ho329, hli330, hvv331, hRg332, hgr333⟩
              have hC335 := callNN hC318 hF328 (own_ge ho329) (own_lt ho329) (fun x_ h_ => (hRg332 x_ h_).1) (fun x_ h_ => (hRg332 x_ h_).2) hgr333
              refine ⟨_, rfl, ?_⟩
              have hvs336 := vsAt_fr hvs319 hF328 (by simp)
              have ho337 := own_fr ho320 hF328 (by simp)
              have hl338 := logIn.fr hl321 hF328 (by simp)
              have ho339 := own_base (b' := 0) ho329 (fun _ _ => Nat.zero_le _)
              have hvvN_L326 : vals L326 = (V.log : List CmdV) := hvv331
              have hll_L326 : L326.length = (V.log : List CmdV).length := by rw [← vals_len, hvvN_L326]
              refine WL.runs 3 [(121, .slice A324 L326.length c325), (120, .agg #[.int .i64 V.an, .int .i64 V.ad]), (117, .tuple #[.agg #[.int .i64 V.an, .int .i64 V.ad], .slice A324 L326.length c325])] (fun _ => by kernel_rfl) ?_
              refine WL.newM hC335 (fun b => .pointer (some ⟨b, 0, none⟩)) (.cells #[.int .i64 0, .int .i64 0] 50) 16 (fun _ => by kernel_rfl) (fun g341 w342 hb345 hF343 hC344 => ?_)
              have hvs346 := vsAt_fr hvs336 hF343 (by simp)
              have ho347 := own_fr ho337 hF343 (by simp)
              have hl348 := logIn.fr hl338 hF343 (by simp)
              have ho349 := own_fr ho339 hF343 (by simp)
              have hl350 := logIn.fr hli330 hF343 (by simp)
              refine WL.storeM (c' := #[.int .i64 V.an, .int .i64 V.ad]) hC344 4 50 g341 0 (.agg #[.int .i64 V.an, .int .i64 V.ad]) (by kernel_rfl) rfl (by kernel_rfl) (fun w351 hF353 hC354 => ?_)
              have hvs355 := vsAt_fr hvs346 hF353 (hC344.apartM 0 4 rfl rfl)
              have ho356 := own_fr ho347 hF353 (hC344.apartM 1 4 rfl rfl)
              have hl357 := logIn.fr hl348 hF353 (hC344.apartM 2 4 rfl rfl)
              have ho358 := own_fr ho349 hF353 (hC344.apartM 3 4 rfl rfl)
              have hl359 := logIn.fr hl350 hF353 (hC344.apartM 4 4 rfl rfl)
              refine WL.runs 1 [(17, .slice A324 L326.length c325)] (fun _ => by kernel_rfl) ?_
              refine WL.done rfl ?_
              refine QX.then_normal (hK323 _ _ ?_)
              refine WC.seq (fun K360 hK361 => ?_)
              refine WC.seq (fun K362 hK363 => ?_)
              refine WC.region ?_
              refine WL.runs 5 [(126, .bool (decide ((i : Int) < (ks.length : Int)))), (125, .bool (decide ((i : Int) < (ks.length : Int)))), (124, .int .i64 (ks.length : Int)), (123, .slice B ks.length c2), (122, .int .i64 (i : Int))] (fun _ => by kernel_rfl) ?_
              refine WL.know 126 (.bool (decide ((i : Int) < (ks.length : Int)))) (.bool true) rfl (congrArg Value.bool (by exact t124b)) ?_
              refine WL.runs 2 [(128, .int .i64 (i : Int)), (127, .slice B ks.length c2)] (fun _ => by kernel_rfl) ?_
              refine WL.index B ks.length c2 129 .i64 (i : Int) b127 o129 i 1 (by kernel_rfl) hA128 (by omega) (by omega) (o129 + i) (by first | (simp; done) | omega) ?_
              refine WL.load 4 (.pointer (some ⟨b127, o129 + i, none⟩)) (.bool e125) 130 (by kernel_rfl) (run_load1 rfl (by simpa [Nat.add_assoc] using hC354.fr.cell (hc130 0 _ rfl) (by simp))) ?_
              refine WL.runs 2 [(132, .bool e125), (131, .bool e125)] (fun _ => by kernel_rfl) ?_
              refine WL.know 132 (.bool e125) (.bool true) rfl (congrArg Value.bool (by exact t131b)) ?_
              refine WL.runs 1 [(133, errV 35 (acceptE V e52.1 e52.2 (vals [(⟨⟨16, 0, (k + 1), 0, 3, 0, 0, 0, [], 167837697, 0, true⟩, none, 0⟩ : Cmd)])))] (fun _ => by kernel_rfl) ?_
              have hr368 : ∀ w_, Sem.run Try.prog (do eqGuard .eql 27 (Operand.tmp 133) (Operand.const (.nilIface)) (errV 35 (acceptE V e52.1 e52.2 (vals [(⟨⟨16, 0, (k + 1), 0, 3, 0, 0, 0, [], 167837697, 0, true⟩, none, 0⟩ : Cmd)]))) (.nilIface); binOp .eql 27 (errV 35 (acceptE V e52.1 e52.2 (vals [(⟨⟨16, 0, (k + 1), 0, 3, 0, 0, 0, [], 167837697, 0, true⟩, none, 0⟩ : Cmd)]))) (.nilIface)) w_ = .ok (.bool (decide (acceptE V e52.1 e52.2 (vals [(⟨⟨16, 0, (k + 1), 0, 3, 0, 0, 0, [], 167837697, 0, true⟩, none, 0⟩ : Cmd)]) = 0))) w_ := fun w_ => (err_eql _ (acceptE V e52.1 e52.2 (vals [(⟨⟨16, 0, (k + 1), 0, 3, 0, 0, 0, [], 167837697, 0, true⟩, none, 0⟩ : Cmd)])) (decide (acceptE V e52.1 e52.2 (vals [(⟨⟨16, 0, (k + 1), 0, 3, 0, 0, 0, [], 167837697, 0, true⟩, none, 0⟩ : Cmd)]) = 0)) (by rfl) _)
              refine WL.sem (do eqGuard .eql 27 (Operand.tmp 133) (Operand.const (.nilIface)) (errV 35 (acceptE V e52.1 e52.2 (vals [(⟨⟨16, 0, (k + 1), 0, 3, 0, 0, 0, [], 167837697, 0, true⟩, none, 0⟩ : Cmd)]))) (.nilIface); binOp .eql 27 (errV 35 (acceptE V e52.1 e52.2 (vals [(⟨⟨16, 0, (k + 1), 0, 3, 0, 0, 0, [], 167837697, 0, true⟩, none, 0⟩ : Cmd)]))) (.nilIface)) 134 (.bool (decide (acceptE V e52.1 e52.2 (vals [(⟨⟨16, 0, (k + 1), 0, 3, 0, 0, 0, [], 167837697, 0, true⟩, none, 0⟩ : Cmd)]) = 0))) (by kernel_rfl) (hr368 _) ?_
              refine WL.runs 2 [(136, .bool (decide (acceptE V e52.1 e52.2 (vals [(⟨⟨16, 0, (k + 1), 0, 3, 0, 0, 0, [], 167837697, 0, true⟩, none, 0⟩ : Cmd)]) = 0))), (135, .bool (decide (acceptE V e52.1 e52.2 (vals [(⟨⟨16, 0, (k + 1), 0, 3, 0, 0, 0, [], 167837697, 0, true⟩, none, 0⟩ : Cmd)]) = 0)))] (fun _ => by kernel_rfl) ?_
              refine WL.know 136 (.bool (decide (acceptE V e52.1 e52.2 (vals [(⟨⟨16, 0, (k + 1), 0, 3, 0, 0, 0, [], 167837697, 0, true⟩, none, 0⟩ : Cmd)]) = 0))) (.bool false) rfl (congrArg Value.bool (by simp [hE159])) ?_
              refine WL.runs 17 [(153, .bool false), (152, undef), (151, undef), (150, undef), (149, undef), (148, undef), (147, undef), (146, undef), (145, undef), (144, undef), (143, undef), (142, undef), (141, undef), (140, undef), (139, undef), (138, undef), (137, undef)] (fun _ => by kernel_rfl) ?_
              refine WL.done rfl ?_
              refine QX.then_normal (hK363 _ _ ?_)
              refine WC.cond_false rfl ?_
              refine WC.skip ?_
              refine QX.then_normal (hK361 _ _ ?_)
              refine WC.seq (fun K369 hK370 => ?_)
              refine WC.drawC hC354 [] (by kernel_rfl) (fun w371 hF372 hC373 hS374 => ?_)
              have hvs375 := vsAt_fr hvs355 hF372 (by simp)
              have ho376 := own_fr ho356 hF372 (by simp)
              have hl377 := logIn.fr hl357 hF372 (by simp)
              have ho378 := own_fr ho358 hF372 (by simp)
              have hl379 := logIn.fr hl359 hF372 (by simp)
              refine WD.pure (NoPanic.then (NoPanic.block (NoPanic.then (NoPanic.then (NoPanic.block (NoPanic.then hN)))))) 0 154 (.pointer (some ⟨p20, 0, none⟩)) (by kernel_rfl) (fun _ => by kernel_rfl) hS374 ?_
              refine WD.load (NoPanic.then (NoPanic.block (NoPanic.then (NoPanic.then (NoPanic.block (NoPanic.then hN)))))) 2 50 (.pointer (some ⟨g341, 0, none⟩)) (.agg #[.int .i64 V.an, .int .i64 V.ad]) 156 (by kernel_rfl) (by kernel_rfl) (fun _ hS_ => run_ld (Fr.has hS_ (hC373.get 4 rfl) (by simp)) rfl) hS374 ?_
              refine WD.call 1 (by kernel_rfl) rfl rfl rfl rfl rfl (by kernel_rfl) (PromVS FA p20 V sp19 N N 4194304 w371 hvs375) ?_
              rintro _ w381 ⟨rfl, hF380⟩
              have hS383 := hS374.trans hF380 (by simp)
              refine ⟨_, rfl, hS383, ?_⟩
              have hC382 := hC373.call hF380
              have hvs384 := vsAt_fr hvs375 hF380 (by simp)
              have ho385 := own_fr ho376 hF380 (by simp)
              have hl386 := logIn.fr hl377 hF380 (by simp)
              have ho387 := own_fr ho378 hF380 (by simp)
              have hl388 := logIn.fr hl379 hF380 (by simp)
              refine WD.call 3 (by kernel_rfl) rfl rfl rfl rfl rfl (by kernel_rfl) (Less_ct V.pn V.pd V.an V.ad w381) ?_
              rintro _ w390 ⟨rfl, hF389⟩
              have hS392 := hS383.trans hF389 (by simp)
              refine ⟨_, rfl, hS392, ?_⟩
              have hC391 := hC382.call hF389
              have hvs393 := vsAt_fr hvs384 hF389 (by simp)
              have ho394 := own_fr ho385 hF389 (by simp)
              have hl395 := logIn.fr hl386 hF389 (by simp)
              have ho396 := own_fr ho387 hF389 (by simp)
              have hl397 := logIn.fr hl388 hF389 (by simp)
              refine WD.done (by kernel_rfl) ?_
              refine QX.then_normal (hK370 _ _ ?_)
              refine WC.know 157 (.bool (lessB V.pn V.pd V.an V.ad)) (.bool false) rfl (congrArg Value.bool (by exact hless)) ?_
              refine WC.cond_false rfl ?_
              refine WC.skip ?_
              refine QX.block_normal ?_
              refine QX.then_normal (hK49 _ _ ?_)
              refine WC.region ?_
              refine WL.runs 1 [(158, .int .i64 (IntKind.i64.wrap ((i : Int) + 1)))] (fun _ => by kernel_rfl) ?_
              refine WL.recast (show (.int .i64 (IntKind.i64.wrap ((i : Int) + 1)) : Value) = .int .i64 ((i : Int) + 1) from by rw [wrap_in_i64 ((i : Int) + 1) (by omega) (by omega)]) ?_
              refine WL.runs 1 [(35, .int .i64 ((i : Int) + 1))] (fun _ => by kernel_rfl) ?_
              refine WL.done rfl ?_
              refine QX.then_normal ?_
              have hC398 := hC391.pick [] [0] rfl rfl
              refine fun a_ ha_ => hK38 _ _ _ ?_ ⟨i + 1, k + 1, FA, V, N, rfl, rfl, hC398, hvs393, by omega, by omega, by omega, hless, by omega⟩ a_ (ha_.weaken (sub_of ⟨rfl, rfl, rfl, rfl, rfl, rfl, rfl, rfl, trivial⟩))
              omega
            · -- (acceptE V e52.1 e52.2 (vals [(⟨⟨16, 0, (k + 1), 0, 3, 0, 0, 0, [], 167837697, 0, true⟩, none, 0⟩ : Cmd)])) = (8 : Int): false
              have t315 : ¬ ((acceptE V e52.1 e52.2 (vals [(⟨⟨16, 0, (k + 1), 0, 3, 0, 0, 0, [], 167837697, 0, true⟩, none, 0⟩ : Cmd)])) = (8 : Int)) := of_decide_eq_false t315b
              refine WL.runs 5 [(116, .bool false), (115, undef), (114, undef), (113, undef), (112, undef)] (fun _ => by kernel_rfl) ?_
              refine WL.done rfl ?_
              refine QX.then_normal (hK313 _ _ ?_)
              refine WC.cond_false rfl ?_
              refine WC.skip ?_
              refine QX.then_normal (hK311 _ _ ?_)
              refine WC.seq (fun K399 hK400 => ?_)
              refine WC.region ?_
              refine WL.runs 1 [(118, .pointer (some ⟨p20, 0, none⟩))] (fun _ => by kernel_rfl) ?_
              refine WL.call rfl rfl rfl rfl rfl (by kernel_rfl) (AcceptedVS FA p20 V sp19 N N 4194304 w303 hvs306) ?_
              rintro _ w411 ⟨A401, c402, L403, R404, rfl, hF405, ho406, hli407, hvv408, hRg409, hgr410⟩
              have hC412 := callNN hC304 hF405 (own_ge ho406) (own_lt ho406) (fun x_ h_ => (hRg409 x_ h_).1) (fun x_ h_ => (hRg409 x_ h_).2) hgr410
              refine ⟨_, rfl, ?_⟩
              have hvs413 := vsAt_fr hvs306 hF405 (by simp)
              have ho414 := own_fr ho307 hF405 (by simp)
              have hl415 := logIn.fr hl308 hF405 (by simp)
              have ho416 := own_base (b' := 0) ho406 (fun _ _ => Nat.zero_le _)
              have hvvN_L403 : vals L403 = (V.log : List CmdV) := hvv408
              have hll_L403 : L403.length = (V.log : List CmdV).length := by rw [← vals_len, hvvN_L403]
              refine WL.runs 3 [(121, .slice A401 L403.length c402), (120, .agg #[.int .i64 V.an, .int .i64 V.ad]), (117, .tuple #[.agg #[.int .i64 V.an, .int .i64 V.ad], .slice A401 L403.length c402])] (fun _ => by kernel_rfl) ?_
              refine WL.newM hC412 (fun b => .pointer (some ⟨b, 0, none⟩)) (.cells #[.int .i64 0, .int .i64 0] 50) 16 (fun _ => by kernel_rfl) (fun g418 w419 hb422 hF420 hC421 => ?_)
              have hvs423 := vsAt_fr hvs413 hF420 (by simp)
              have ho424 := own_fr ho414 hF420 (by simp)
              have hl425 := logIn.fr hl415 hF420 (by simp)
              have ho426 := own_fr ho416 hF420 (by simp)
              have hl427 := logIn.fr hli407 hF420 (by simp)
              refine WL.storeM (c' := #[.int .i64 V.an, .int .i64 V.ad]) hC421 4 50 g418 0 (.agg #[.int .i64 V.an, .int .i64 V.ad]) (by kernel_rfl) rfl (by kernel_rfl) (fun w428 hF430 hC431 => ?_)
              have hvs432 := vsAt_fr hvs423 hF430 (hC421.apartM 0 4 rfl rfl)
              have ho433 := own_fr ho424 hF430 (hC421.apartM 1 4 rfl rfl)
              have hl434 := logIn.fr hl425 hF430 (hC421.apartM 2 4 rfl rfl)
              have ho435 := own_fr ho426 hF430 (hC421.apartM 3 4 rfl rfl)
              have hl436 := logIn.fr hl427 hF430 (hC421.apartM 4 4 rfl rfl)
              refine WL.runs 1 [(17, .slice A401 L403.length c402)] (fun _ => by kernel_rfl) ?_
              refine WL.done rfl ?_
              refine QX.then_normal (hK400 _ _ ?_)
              refine WC.seq (fun K437 hK438 => ?_)
              refine WC.seq (fun K439 hK440 => ?_)
              refine WC.region ?_
              refine WL.runs 5 [(126, .bool (decide ((i : Int) < (ks.length : Int)))), (125, .bool (decide ((i : Int) < (ks.length : Int)))), (124, .int .i64 (ks.length : Int)), (123, .slice B ks.length c2), (122, .int .i64 (i : Int))] (fun _ => by kernel_rfl) ?_
              refine WL.know 126 (.bool (decide ((i : Int) < (ks.length : Int)))) (.bool true) rfl (congrArg Value.bool (by exact t124b)) ?_
              refine WL.runs 2 [(128, .int .i64 (i : Int)), (127, .slice B ks.length c2)] (fun _ => by kernel_rfl) ?_
              refine WL.index B ks.length c2 129 .i64 (i : Int) b127 o129 i 1 (by kernel_rfl) hA128 (by omega) (by omega) (o129 + i) (by first | (simp; done) | omega) ?_
              refine WL.load 4 (.pointer (some ⟨b127, o129 + i, none⟩)) (.bool e125) 130 (by kernel_rfl) (run_load1 rfl (by simpa [Nat.add_assoc] using hC431.fr.cell (hc130 0 _ rfl) (by simp))) ?_
              refine WL.runs 2 [(132, .bool e125), (131, .bool e125)] (fun _ => by kernel_rfl) ?_
              refine WL.know 132 (.bool e125) (.bool true) rfl (congrArg Value.bool (by exact t131b)) ?_
              refine WL.runs 1 [(133, errV 35 (acceptE V e52.1 e52.2 (vals [(⟨⟨16, 0, (k + 1), 0, 3, 0, 0, 0, [], 167837697, 0, true⟩, none, 0⟩ : Cmd)])))] (fun _ => by kernel_rfl) ?_
              have hr445 : ∀ w_, Sem.run Try.prog (do eqGuard .eql 27 (Operand.tmp 133) (Operand.const (.nilIface)) (errV 35 (acceptE V e52.1 e52.2 (vals [(⟨⟨16, 0, (k + 1), 0, 3, 0, 0, 0, [], 167837697, 0, true⟩, none, 0⟩ : Cmd)]))) (.nilIface); binOp .eql 27 (errV 35 (acceptE V e52.1 e52.2 (vals [(⟨⟨16, 0, (k + 1), 0, 3, 0, 0, 0, [], 167837697, 0, true⟩, none, 0⟩ : Cmd)]))) (.nilIface)) w_ = .ok (.bool (decide (acceptE V e52.1 e52.2 (vals [(⟨⟨16, 0, (k + 1), 0, 3, 0, 0, 0, [], 167837697, 0, true⟩, none, 0⟩ : Cmd)]) = 0))) w_ := fun w_ => (err_eql _ (acceptE V e52.1 e52.2 (vals [(⟨⟨16, 0, (k + 1), 0, 3, 0, 0, 0, [], 167837697, 0, true⟩, none, 0⟩ : Cmd)])) (decide (acceptE V e52.1 e52.2 (vals [(⟨⟨16, 0, (k + 1), 0, 3, 0, 0, 0, [], 167837697, 0, true⟩, none, 0⟩ : Cmd)]) = 0)) (by rfl) _)
              refine WL.sem (do eqGuard .eql 27 (Operand.tmp 133) (Operand.const (.nilIface)) (errV 35 (acceptE V e52.1 e52.2 (vals [(⟨⟨16, 0, (k + 1), 0, 3, 0, 0, 0, [], 167837697, 0, true⟩, none, 0⟩ : Cmd)]))) (.nilIface); binOp .eql 27 (errV 35 (acceptE V e52.1 e52.2 (vals [(⟨⟨16, 0, (k + 1), 0, 3, 0, 0, 0, [], 167837697, 0, true⟩, none, 0⟩ : Cmd)]))) (.nilIface)) 134 (.bool (decide (acceptE V e52.1 e52.2 (vals [(⟨⟨16, 0, (k + 1), 0, 3, 0, 0, 0, [], 167837697, 0, true⟩, none, 0⟩ : Cmd)]) = 0))) (by kernel_rfl) (hr445 _) ?_
              refine WL.runs 2 [(136, .bool (decide (acceptE V e52.1 e52.2 (vals [(⟨⟨16, 0, (k + 1), 0, 3, 0, 0, 0, [], 167837697, 0, true⟩, none, 0⟩ : Cmd)]) = 0))), (135, .bool (decide (acceptE V e52.1 e52.2 (vals [(⟨⟨16, 0, (k + 1), 0, 3, 0, 0, 0, [], 167837697, 0, true⟩, none, 0⟩ : Cmd)]) = 0)))] (fun _ => by kernel_rfl) ?_
              refine WL.know 136 (.bool (decide (acceptE V e52.1 e52.2 (vals [(⟨⟨16, 0, (k + 1), 0, 3, 0, 0, 0, [], 167837697, 0, true⟩, none, 0⟩ : Cmd)]) = 0))) (.bool false) rfl (congrArg Value.bool (by simp [hE159])) ?_
              refine WL.runs 17 [(153, .bool false), (152, undef), (151, undef), (150, undef), (149, undef), (148, undef), (147, undef), (146, undef), (145, undef), (144, undef), (143, undef), (142, undef), (141, undef), (140, undef), (139, undef), (138, undef), (137, undef)] (fun _ => by kernel_rfl) ?_
              refine WL.done rfl ?_
              refine QX.then_normal (hK440 _ _ ?_)
              refine WC.cond_false rfl ?_
              refine WC.skip ?_
              refine QX.then_normal (hK438 _ _ ?_)
              refine WC.seq (fun K446 hK447 => ?_)
              refine WC.drawC hC431 [] (by kernel_rfl) (fun w448 hF449 hC450 hS451 => ?_)
              have hvs452 := vsAt_fr hvs432 hF449 (by simp)
              have ho453 := own_fr ho433 hF449 (by simp)
              have hl454 := logIn.fr hl434 hF449 (by simp)
              have ho455 := own_fr ho435 hF449 (by simp)
              have hl456 := logIn.fr hl436 hF449 (by simp)
              refine WD.pure (NoPanic.then (NoPanic.block (NoPanic.then (NoPanic.then (NoPanic.block (NoPanic.then hN)))))) 0 154 (.pointer (some ⟨p20, 0, none⟩)) (by kernel_rfl) (fun _ => by kernel_rfl) hS451 ?_
              refine WD.load (NoPanic.then (NoPanic.block (NoPanic.then (NoPanic.then (NoPanic.block (NoPanic.then hN)))))) 2 50 (.pointer (some ⟨g418, 0, none⟩)) (.agg #[.int .i64 V.an, .int .i64 V.ad]) 156 (by kernel_rfl) (by kernel_rfl) (fun _ hS_ => run_ld (Fr.has hS_ (hC450.get 4 rfl) (by simp)) rfl) hS451 ?_
              refine WD.call 1 (by kernel_rfl) rfl rfl rfl rfl rfl (by kernel_rfl) (PromVS FA p20 V sp19 N N 4194304 w448 hvs452) ?_
              rintro _ w458 ⟨rfl, hF457⟩
              have hS460 := hS451.trans hF457 (by simp)
              refine ⟨_, rfl, hS460, ?_⟩
              have hC459 := hC450.call hF457
              have hvs461 := vsAt_fr hvs452 hF457 (by simp)
              have ho462 := own_fr ho453 hF457 (by simp)
              have hl463 := logIn.fr hl454 hF457 (by simp)
              have ho464 := own_fr ho455 hF457 (by simp)
              have hl465 := logIn.fr hl456 hF457 (by simp)
              refine WD.call 3 (by kernel_rfl) rfl rfl rfl rfl rfl (by kernel_rfl) (Less_ct V.pn V.pd V.an V.ad w458) ?_
              rintro _ w467 ⟨rfl, hF466⟩
              have hS469 := hS460.trans hF466 (by simp)
              refine ⟨_, rfl, hS469, ?_⟩
              have hC468 := hC459.call hF466
              have hvs470 := vsAt_fr hvs461 hF466 (by simp)
              have ho471 := own_fr ho462 hF466 (by simp)
              have hl472 := logIn.fr hl463 hF466 (by simp)
              have ho473 := own_fr ho464 hF466 (by simp)
              have hl474 := logIn.fr hl465 hF466 (by simp)
              refine WD.done (by kernel_rfl) ?_
              refine QX.then_normal (hK447 _ _ ?_)
              refine WC.know 157 (.bool (lessB V.pn V.pd V.an V.ad)) (.bool false) rfl (congrArg Value.bool (by exact hless)) ?_
              refine WC.cond_false rfl ?_
              refine WC.skip ?_
              refine QX.block_normal ?_
              refine QX.then_normal (hK49 _ _ ?_)
              refine WC.region ?_
              refine WL.runs 1 [(158, .int .i64 (IntKind.i64.wrap ((i : Int) + 1)))] (fun _ => by kernel_rfl) ?_
              refine WL.recast (show (.int .i64 (IntKind.i64.wrap ((i : Int) + 1)) : Value) = .int .i64 ((i : Int) + 1) from by rw [wrap_in_i64 ((i : Int) + 1) (by omega) (by omega)]) ?_
              refine WL.runs 1 [(35, .int .i64 ((i : Int) + 1))] (fun _ => by kernel_rfl) ?_
              refine WL.done rfl ?_
              refine QX.then_normal ?_
              have hC475 := hC468.pick [] [0] rfl rfl
              refine fun a_ ha_ => hK38 _ _ _ ?_ ⟨i + 1, k + 1, FA, V, N, rfl, rfl, hC475, hvs470, by omega, by omega, by omega, hless, by omega⟩ a_ (ha_.weaken (sub_of ⟨rfl, rfl, rfl, rfl, rfl, rfl, rfl, rfl, trivial⟩))
              omega
        · -- e125 = true: false
          refine WC.cond_false rfl ?_
          refine WC.seq (fun K476 hK477 => ?_)
          refine WC.region ?_
          refine WL.newM hC114 (fun b => .pointer (some ⟨b, 0, none⟩)) (.cells #[.int .i64 0, .int .i64 0] 50) 14 (fun _ => by kernel_rfl) (fun g478 w479 hb482 hF480 hC481 => ?_)
          have hvs483 := vsAt_fr hvs115 hF480 (by simp)
          have ho484 := own_fr ho116 hF480 (by simp)
          have hl485 := logIn.fr hl117 hF480 (by simp)
          refine WL.done rfl ?_
          refine QX.then_normal (hK477 _ _ ?_)
          refine WC.seq (fun K486 hK487 => ?_)
          refine WC.region ?_
          refine WL.runs 1 [(15, .slice none 0 0)] (fun _ => by kernel_rfl) ?_
          refine WL.done rfl ?_
          refine QX.then_normal (hK487 _ _ ?_)
          refine WC.seq (fun K488 hK489 => ?_)
          refine WC.region ?_
          refine WL.runs 1 [(66, .pointer (some ⟨p20, 0, none⟩))] (fun _ => by kernel_rfl) ?_
          refine WL.load 50 (.pointer (some ⟨g58, 0, none⟩)) (.agg #[.int .i64 e52.1, .int .i64 e52.2]) 67 (by kernel_rfl) (run_ld (hC481.get 0 rfl) rfl) ?_
          rcases Classical.em (askedE V e52.1 e52.2 = 0) with hE490 | hE490
          · skip
            refine WL.call rfl rfl rfl rfl rfl (by kernel_rfl) (PrepVS_yes FA p20 V sp19 N N 4194304 w479 hvs483 e52.1 e52.2 (hbi _ (List.mem_of_getElem? he53)).2 hE490 (room_prep (by omega))) ?_
            rintro _ w505 ⟨A491, c492, L493, R494, FA495, rfl, hF496, hvs497, hsub498, hdj499, ho500, hli501, hvv502, hRg503, hgr504⟩
            have hC506 := callFLog hC481 0 rfl hF496 hsub498 (vsAt_lt hvs497) (own_ge ho500) (own_lt ho500) hRg503 hgr504 hdj499
            refine ⟨_, rfl, ?_⟩
            have ho507 := own_fr ho484 hF496 (hC481.disj 1 0 rfl rfl (by decide))
            have hl508 := logIn.fr hl485 hF496 (hC481.disj 2 0 rfl rfl (by decide))
            have ho509 := own_base (b' := 0) ho500 (fun _ _ => Nat.zero_le _)
            have hvvN_L493 : vals L493 = (V.log : List CmdV) := hvv502
            have hll_L493 : L493.length = (V.log : List CmdV).length := by rw [← vals_len, hvvN_L493]
            have hvsN511 : vsAt w505 FA495 p20 (⟨e52.1, e52.2, V.an, V.ad, V.log, V.node⟩ : Vo) sp19 (putL N kP (bytesN [e52.1, e52.2])) (putL N kP (bytesN [e52.1, e52.2])) 4194304 := hvs497
            refine WL.runs 4 [(71, .nilIface), (70, .slice A491 L493.length c492), (69, .agg #[.int .i64 V.an, .int .i64 V.ad]), (65, .tuple #[.agg #[.int .i64 V.an, .int .i64 V.ad], .slice A491 L493.length c492, .nilIface])] (fun _ => by kernel_rfl) ?_
            refine WL.storeM (c' := #[.int .i64 V.an, .int .i64 V.ad]) hC506 3 50 g478 0 (.agg #[.int .i64 V.an, .int .i64 V.ad]) (by kernel_rfl) rfl (by kernel_rfl) (fun w512 hF514 hC515 => ?_)
            have hvs516 := vsAt_fr hvsN511 hF514 (hC506.apartM 0 3 rfl rfl)
            have ho517 := own_fr ho507 hF514 (hC506.apartM 1 3 rfl rfl)
            have hl518 := logIn.fr hl508 hF514 (hC506.apartM 2 3 rfl rfl)
            have ho519 := own_fr ho509 hF514 (hC506.apartM 3 3 rfl rfl)
            have hl520 := logIn.fr hli501 hF514 (hC506.apartM 4 3 rfl rfl)
            refine WL.runs 2 [(13, .nilIface), (15, .slice A491 L493.length c492)] (fun _ => by kernel_rfl) ?_
            refine WL.done rfl ?_
            refine QX.then_normal (hK489 _ _ ?_)
            refine WC.seq (fun K521 hK522 => ?_)
            refine WC.region ?_
            refine WL.runs 3 [(74, .bool true), (73, .bool true), (72, .nilIface)] (fun _ => by kernel_rfl) ?_
            refine WL.load 50 (.pointer (some ⟨g478, 0, none⟩)) (.agg #[.int .i64 V.an, .int .i64 V.ad]) 75 (by kernel_rfl) (run_ld (hC515.get 3 rfl) rfl) ?_
            refine WL.load 50 (.pointer (some ⟨g103, 0, none⟩)) (.agg #[.int .i64 V.an, .int .i64 V.ad]) 76 (by kernel_rfl) (run_ld (hC515.get 2 rfl) rfl) ?_
            have hr523 : ∀ w_, Sem.run Try.prog (do eqGuard .neq 50 (Operand.tmp 75) (Operand.tmp 76) (.agg #[.int .i64 V.an, .int .i64 V.ad]) (.agg #[.int .i64 V.an, .int .i64 V.ad]); binOp .neq 50 (.agg #[.int .i64 V.an, .int .i64 V.ad]) (.agg #[.int .i64 V.an, .int .i64 V.ad])) w_ = .ok (.bool (!(V.an == V.an && (V.ad == V.ad && true)))) w_ := fun w_ => (run_neq_S (by kernel_rfl))
            refine WL.sem (do eqGuard .neq 50 (Operand.tmp 75) (Operand.tmp 76) (.agg #[.int .i64 V.an, .int .i64 V.ad]) (.agg #[.int .i64 V.an, .int .i64 V.ad]); binOp .neq 50 (.agg #[.int .i64 V.an, .int .i64 V.ad]) (.agg #[.int .i64 V.an, .int .i64 V.ad])) 77 (.bool (!(V.an == V.an && (V.ad == V.ad && true)))) (by kernel_rfl) (hr523 _) ?_
            refine WL.runs 1 [(78, .bool (!(V.an == V.an && (V.ad == V.ad && true))))] (fun _ => by kernel_rfl) ?_
            refine WL.know 78 (.bool (!(V.an == V.an && (V.ad == V.ad && true)))) (.bool false) rfl (congrArg Value.bool (by simp)) ?_
            refine WL.runs 2 [(80, .slice A88 L90.length c89), (79, .slice A491 L493.length c492)] (fun _ => by kernel_rfl) ?_
            refine WL.call rfl rfl rfl rfl rfl (by kernel_rfl) (RSame_n A491 A88 L493.length c492 L90.length c89 L493 L90 w512 (own_rd ho519 cellsC_len (by decide)) (own_rd ho517 cellsC_len (by decide)) rfl rfl (fun m_ h_ => hl520.at_ m_ h_) (fun m_ h_ => hl518.at_ m_ h_) (Nat.le_trans (Nat.le_of_eq hll_L493) (vs_loglen hvs))) ?_
            rintro _ w525 ⟨rfl, hF524⟩
            refine ⟨_, rfl, ?_⟩
            have hC526 := hC515.call hF524
            have hvs527 := vsAt_fr hvs516 hF524 (by simp)
            have ho528 := own_fr ho517 hF524 (by simp)
            have hl529 := logIn.fr hl518 hF524 (by simp)
            have ho530 := own_fr ho519 hF524 (by simp)
            have hl531 := logIn.fr hl520 hF524 (by simp)
            refine WL.runs 3 [(84, .bool (!(decide (vals L493 = vals L90)))), (83, .bool (!(decide (vals L493 = vals L90)))), (82, .bool (!(decide (vals L493 = vals L90))))] (fun _ => by kernel_rfl) ?_
            refine WL.done rfl ?_
            refine QX.then_normal (hK522 _ _ ?_)
            refine WC.know 84 (.bool (!(decide (vals L493 = vals L90)))) (.bool false) rfl (congrArg Value.bool (by simp [hvvN_L493, hvvN_L90])) ?_
            refine WC.cond_false rfl ?_
            refine WC.skip ?_
            refine QX.then_normal (hK121 _ _ ?_)
            refine WC.seq (fun K532 hK533 => ?_)
            refine WC.seq (fun K534 hK535 => ?_)
            refine WC.drawC hC526 [] (by kernel_rfl) (fun w536 hF537 hC538 hS539 => ?_)
            have hvs540 := vsAt_fr hvs527 hF537 (by simp)
            have ho541 := own_fr ho528 hF537 (by simp)
            have hl542 := logIn.fr hl529 hF537 (by simp)
            have ho543 := own_fr ho530 hF537 (by simp)
            have hl544 := logIn.fr hl531 hF537 (by simp)
            refine WD.pure (NoPanic.then (NoPanic.then (NoPanic.block (NoPanic.then (NoPanic.then (NoPanic.block (NoPanic.then hN))))))) 0 85 (.nilIface) (by kernel_rfl) (fun _ => by kernel_rfl) hS539 ?_
            refine WD.pure (NoPanic.then (NoPanic.then (NoPanic.block (NoPanic.then (NoPanic.then (NoPanic.block (NoPanic.then hN))))))) 1 86 (.bool true) (by kernel_rfl) (fun _ => by kernel_rfl) hS539 ?_
            refine WD.pure (NoPanic.then (NoPanic.then (NoPanic.block (NoPanic.then (NoPanic.then (NoPanic.block (NoPanic.then hN))))))) 2 87 (.bool true) (by kernel_rfl) (fun _ => by kernel_rfl) hS539 ?_
            refine WD.pure (NoPanic.then (NoPanic.then (NoPanic.block (NoPanic.then (NoPanic.then (NoPanic.block (NoPanic.then hN))))))) 3 88 (.pointer (some ⟨p20, 0, none⟩)) (by kernel_rfl) (fun _ => by kernel_rfl) hS539 ?_
            refine WD.load (NoPanic.then (NoPanic.then (NoPanic.block (NoPanic.then (NoPanic.then (NoPanic.block (NoPanic.then hN))))))) 5 50 (.pointer (some ⟨g58, 0, none⟩)) (.agg #[.int .i64 e52.1, .int .i64 e52.2]) 90 (by kernel_rfl) (by kernel_rfl) (fun _ hS_ => run_ld (Fr.has hS_ (hC538.get 0 rfl) (by simp)) rfl) hS539 ?_
            refine WD.call 4 (by kernel_rfl) rfl rfl rfl rfl rfl (by kernel_rfl) (PromVS FA495 p20 (⟨e52.1, e52.2, V.an, V.ad, V.log, V.node⟩ : Vo) sp19 (putL N kP (bytesN [e52.1, e52.2])) (putL N kP (bytesN [e52.1, e52.2])) 4194304 w536 hvs540) ?_
            rintro _ w546 ⟨rfl, hF545⟩
            have hS548 := hS539.trans hF545 (by simp)
            refine ⟨_, rfl, hS548, ?_⟩
            have hC547 := hC538.call hF545
            have hvs549 := vsAt_fr hvs540 hF545 (by simp)
            have ho550 := own_fr ho541 hF545 (by simp)
            have hl551 := logIn.fr hl542 hF545 (by simp)
            have ho552 := own_fr ho543 hF545 (by simp)
            have hl553 := logIn.fr hl544 hF545 (by simp)
            have hr554 : ∀ w_, Sem.run Try.prog (do eqGuard .neq 50 (Operand.tmp 89) (Operand.tmp 90) (.agg #[.int .i64 e52.1, .int .i64 e52.2]) (.agg #[.int .i64 e52.1, .int .i64 e52.2]); binOp .neq 50 (.agg #[.int .i64 e52.1, .int .i64 e52.2]) (.agg #[.int .i64 e52.1, .int .i64 e52.2])) w_ = .ok (.bool (!(e52.1 == e52.1 && (e52.2 == e52.2 && true)))) w_ := fun w_ => (run_neq_S (by kernel_rfl))
            refine WD.semP (NoPanic.then (NoPanic.then (NoPanic.block (NoPanic.then (NoPanic.then (NoPanic.block (NoPanic.then hN))))))) 6 (do eqGuard .neq 50 (Operand.tmp 89) (Operand.tmp 90) (.agg #[.int .i64 e52.1, .int .i64 e52.2]) (.agg #[.int .i64 e52.1, .int .i64 e52.2]); binOp .neq 50 (.agg #[.int .i64 e52.1, .int .i64 e52.2]) (.agg #[.int .i64 e52.1, .int .i64 e52.2])) 91 (.bool (!(e52.1 == e52.1 && (e52.2 == e52.2 && true)))) (by kernel_rfl) (by kernel_rfl) (fun _ _ => hr554 _) hS548 ?_
            refine WD.pure (NoPanic.then (NoPanic.then (NoPanic.block (NoPanic.then (NoPanic.then (NoPanic.block (NoPanic.then hN))))))) 7 92 (.bool (!(e52.1 == e52.1 && (e52.2 == e52.2 && true)))) (by kernel_rfl) (fun _ => by kernel_rfl) hS548 ?_
            refine WD.know 92 (.bool (!(e52.1 == e52.1 && (e52.2 == e52.2 && true)))) (.bool false) rfl (congrArg Value.bool (by simp)) ?_
            refine WD.load (NoPanic.then (NoPanic.then (NoPanic.block (NoPanic.then (NoPanic.then (NoPanic.block (NoPanic.then hN))))))) 8 50 (.pointer (some ⟨g58, 0, none⟩)) (.agg #[.int .i64 e52.1, .int .i64 e52.2]) 93 (by kernel_rfl) (by kernel_rfl) (fun _ hS_ => run_ld (Fr.has hS_ (hC538.get 0 rfl) (by simp)) rfl) hS548 ?_
            refine WD.load (NoPanic.then (NoPanic.then (NoPanic.block (NoPanic.then (NoPanic.then (NoPanic.block (NoPanic.then hN))))))) 9 50 (.pointer (some ⟨g75, 0, none⟩)) (.agg #[.int .i64 V.pn, .int .i64 V.pd]) 94 (by kernel_rfl) (by kernel_rfl) (fun _ hS_ => run_ld (Fr.has hS_ (hC538.get 1 rfl) (by simp)) rfl) hS548 ?_
            refine WD.call 10 (by kernel_rfl) rfl rfl rfl rfl rfl (by kernel_rfl) (Less_ct e52.1 e52.2 V.pn V.pd w546) ?_
            rintro _ w556 ⟨rfl, hF555⟩
            have hS558 := hS548.trans hF555 (by simp)
            refine ⟨_, rfl, hS558, ?_⟩
            have hC557 := hC547.call hF555
            have hvs559 := vsAt_fr hvs549 hF555 (by simp)
            have ho560 := own_fr ho550 hF555 (by simp)
            have hl561 := logIn.fr hl551 hF555 (by simp)
            have ho562 := own_fr ho552 hF555 (by simp)
            have hl563 := logIn.fr hl553 hF555 (by simp)
            refine WD.pure (NoPanic.then (NoPanic.then (NoPanic.block (NoPanic.then (NoPanic.then (NoPanic.block (NoPanic.then hN))))))) 11 96 (.bool (lessB e52.1 e52.2 V.pn V.pd)) (by kernel_rfl) (fun _ => by kernel_rfl) hS558 ?_
            refine WD.pure (NoPanic.then (NoPanic.then (NoPanic.block (NoPanic.then (NoPanic.then (NoPanic.block (NoPanic.then hN))))))) 12 97 (.bool (lessB e52.1 e52.2 V.pn V.pd)) (by kernel_rfl) (fun _ => by kernel_rfl) hS558 ?_
            refine WD.pure (NoPanic.then (NoPanic.then (NoPanic.block (NoPanic.then (NoPanic.then (NoPanic.block (NoPanic.then hN))))))) 13 98 (.bool (lessB e52.1 e52.2 V.pn V.pd)) (by kernel_rfl) (fun _ => by kernel_rfl) hS558 ?_
            refine WD.know 98 (.bool (lessB e52.1 e52.2 V.pn V.pd)) (.bool false) rfl (congrArg Value.bool (by exact (asked_yes hE490).2)) ?_
            refine WD.pure (NoPanic.then (NoPanic.then (NoPanic.block (NoPanic.then (NoPanic.then (NoPanic.block (NoPanic.then hN))))))) 14 99 (.nilIface) (by kernel_rfl) (fun _ => by kernel_rfl) hS558 ?_
            refine WD.pure (NoPanic.then (NoPanic.then (NoPanic.block (NoPanic.then (NoPanic.then (NoPanic.block (NoPanic.then hN))))))) 15 100 (.bool false) (by kernel_rfl) (fun _ => by kernel_rfl) hS558 ?_
            refine WD.pure (NoPanic.then (NoPanic.then (NoPanic.block (NoPanic.then (NoPanic.then (NoPanic.block (NoPanic.then hN))))))) 16 101 (.bool false) (by kernel_rfl) (fun _ => by kernel_rfl) hS558 ?_
            refine WD.pure (NoPanic.then (NoPanic.then (NoPanic.block (NoPanic.then (NoPanic.then (NoPanic.block (NoPanic.then hN))))))) 17 102 (undef) (by kernel_rfl) (fun _ => by kernel_rfl) hS558 ?_
            refine WD.pure (NoPanic.then (NoPanic.then (NoPanic.block (NoPanic.then (NoPanic.then (NoPanic.block (NoPanic.then hN))))))) 18 103 (undef) (by kernel_rfl) (fun _ => by kernel_rfl) hS558 ?_
            refine WD.pure (NoPanic.then (NoPanic.then (NoPanic.block (NoPanic.then (NoPanic.then (NoPanic.block (NoPanic.then hN))))))) 19 104 (undef) (by kernel_rfl) (fun _ => by kernel_rfl) hS558 ?_
            refine WD.pure (NoPanic.then (NoPanic.then (NoPanic.block (NoPanic.then (NoPanic.then (NoPanic.block (NoPanic.then hN))))))) 20 105 (undef) (by kernel_rfl) (fun _ => by kernel_rfl) hS558 ?_
            refine WD.pure (NoPanic.then (NoPanic.then (NoPanic.block (NoPanic.then (NoPanic.then (NoPanic.block (NoPanic.then hN))))))) 21 106 (.bool false) (by kernel_rfl) (fun _ => by kernel_rfl) hS558 ?_
            refine WD.pure (NoPanic.then (NoPanic.then (NoPanic.block (NoPanic.then (NoPanic.then (NoPanic.block (NoPanic.then hN))))))) 22 107 (.bool false) (by kernel_rfl) (fun _ => by kernel_rfl) hS558 ?_
            refine WD.done (by kernel_rfl) ?_
            refine QX.then_normal (hK535 _ _ ?_)
            refine WC.cond_false rfl ?_
            refine WC.skip ?_
            refine QX.then_normal (hK533 _ _ ?_)
            refine WC.seq (fun K564 hK565 => ?_)
            refine WC.seq (fun K566 hK567 => ?_)
            refine WC.region ?_
            refine WL.runs 9 [(116, .bool false), (115, undef), (114, undef), (113, undef), (112, undef), (111, .bool false), (110, .bool false), (109, .iface 35 (.int .i64 8)), (108, .nilIface)] (fun _ => by kernel_rfl) ?_
            refine WL.done rfl ?_
            refine QX.then_normal (hK567 _ _ ?_)
            refine WC.cond_false rfl ?_
            refine WC.skip ?_
            refine QX.then_normal (hK565 _ _ ?_)
            refine WC.seq (fun K568 hK569 => ?_)
            refine WC.region ?_
            refine WL.runs 1 [(118, .pointer (some ⟨p20, 0, none⟩))] (fun _ => by kernel_rfl) ?_
            refine WL.call rfl rfl rfl rfl rfl (by kernel_rfl) (AcceptedVS FA495 p20 (⟨e52.1, e52.2, V.an, V.ad, V.log, V.node⟩ : Vo) sp19 (putL N kP (bytesN [e52.1, e52.2])) (putL N kP (bytesN [e52.1, e52.2])) 4194304 w556 hvs559) ?_
            rintro _ w580 ⟨A570, c571, L572, R573, rfl, hF574, ho575, hli576, hvv577, hRg578, hgr579⟩
            have hC581 := callNN hC557 hF574 (own_ge ho575) (own_lt ho575) (fun x_ h_ => (hRg578 x_ h_).1) (fun x_ h_ => (hRg578 x_ h_).2) hgr579
            refine ⟨_, rfl, ?_⟩
            have hvs582 := vsAt_fr hvs559 hF574 (by simp)
            have ho583 := own_fr ho560 hF574 (by simp)
            have hl584 := logIn.fr hl561 hF574 (by simp)
            have ho585 := own_fr ho562 hF574 (by simp)
            have hl586 := logIn.fr hl563 hF574 (by simp)
            have ho587 := own_base (b' := 0) ho575 (fun _ _ => Nat.zero_le _)
            have hvvN_L572 : vals L572 = (V.log : List CmdV) := hvv577
            have hll_L572 : L572.length = (V.log : List CmdV).length := by rw [← vals_len, hvvN_L572]
            refine WL.runs 3 [(121, .slice A570 L572.length c571), (120, .agg #[.int .i64 V.an, .int .i64 V.ad]), (117, .tuple #[.agg #[.int .i64 V.an, .int .i64 V.ad], .slice A570 L572.length c571])] (fun _ => by kernel_rfl) ?_
            refine WL.newM hC581 (fun b => .pointer (some ⟨b, 0, none⟩)) (.cells #[.int .i64 0, .int .i64 0] 50) 16 (fun _ => by kernel_rfl) (fun g589 w590 hb593 hF591 hC592 => ?_)
            have hvs594 := vsAt_fr hvs582 hF591 (by simp)
            have ho595 := own_fr ho583 hF591 (by simp)
            have hl596 := logIn.fr hl584 hF591 (by simp)
            have ho597 := own_fr ho585 hF591 (by simp)
            have hl598 := logIn.fr hl586 hF591 (by simp)
            have ho599 := own_fr ho587 hF591 (by simp)
            have hl600 := logIn.fr hli576 hF591 (by simp)
            refine WL.storeM (c' := #[.int .i64 V.an, .int .i64 V.ad]) hC592 4 50 g589 0 (.agg #[.int .i64 V.an, .int .i64 V.ad]) (by kernel_rfl) rfl (by kernel_rfl) (fun w601 hF603 hC604 => ?_)
            have hvs605 := vsAt_fr hvs594 hF603 (hC592.apartM 0 4 rfl rfl)
            have ho606 := own_fr ho595 hF603 (hC592.apartM 1 4 rfl rfl)
            have hl607 := logIn.fr hl596 hF603 (hC592.apartM 2 4 rfl rfl)
            have ho608 := own_fr ho597 hF603 (hC592.apartM 3 4 rfl rfl)
            have hl609 := logIn.fr hl598 hF603 (hC592.apartM 4 4 rfl rfl)
            have ho610 := own_fr ho599 hF603 (hC592.apartM 5 4 rfl rfl)
            have hl611 := logIn.fr hl600 hF603 (hC592.apartM 6 4 rfl rfl)
            refine WL.runs 1 [(17, .slice A570 L572.length c571)] (fun _ => by kernel_rfl) ?_
            refine WL.done rfl ?_
            refine QX.then_normal (hK569 _ _ ?_)
            refine WC.seq (fun K612 hK613 => ?_)
            refine WC.seq (fun K614 hK615 => ?_)
            refine WC.region ?_
            refine WL.runs 5 [(126, .bool (decide ((i : Int) < (ks.length : Int)))), (125, .bool (decide ((i : Int) < (ks.length : Int)))), (124, .int .i64 (ks.length : Int)), (123, .slice B ks.length c2), (122, .int .i64 (i : Int))] (fun _ => by kernel_rfl) ?_
            refine WL.know 126 (.bool (decide ((i : Int) < (ks.length : Int)))) (.bool true) rfl (congrArg Value.bool (by exact t124b)) ?_
            refine WL.runs 2 [(128, .int .i64 (i : Int)), (127, .slice B ks.length c2)] (fun _ => by kernel_rfl) ?_
            refine WL.index B ks.length c2 129 .i64 (i : Int) b127 o129 i 1 (by kernel_rfl) hA128 (by omega) (by omega) (o129 + i) (by first | (simp; done) | omega) ?_
            refine WL.load 4 (.pointer (some ⟨b127, o129 + i, none⟩)) (.bool e125) 130 (by kernel_rfl) (run_load1 rfl (by simpa [Nat.add_assoc] using hC604.fr.cell (hc130 0 _ rfl) (by simp))) ?_
            refine WL.runs 2 [(132, .bool e125), (131, .bool e125)] (fun _ => by kernel_rfl) ?_
            refine WL.know 132 (.bool e125) (.bool false) rfl (congrArg Value.bool (by exact t131b)) ?_
            refine WL.runs 21 [(153, .bool false), (152, undef), (151, undef), (150, undef), (149, undef), (148, undef), (147, undef), (146, undef), (145, undef), (144, undef), (143, undef), (142, undef), (141, undef), (140, undef), (139, undef), (138, undef), (137, undef), (136, .bool false), (135, .bool false), (134, undef), (133, undef)] (fun _ => by kernel_rfl) ?_
            refine WL.done rfl ?_
            refine QX.then_normal (hK615 _ _ ?_)
            refine WC.cond_false rfl ?_
            refine WC.skip ?_
            refine QX.then_normal (hK613 _ _ ?_)
            refine WC.seq (fun K620 hK621 => ?_)
            refine WC.drawC hC604 [] (by kernel_rfl) (fun w622 hF623 hC624 hS625 => ?_)
            have hvs626 := vsAt_fr hvs605 hF623 (by simp)
            have ho627 := own_fr ho606 hF623 (by simp)
            have hl628 := logIn.fr hl607 hF623 (by simp)
            have ho629 := own_fr ho608 hF623 (by simp)
            have hl630 := logIn.fr hl609 hF623 (by simp)
            have ho631 := own_fr ho610 hF623 (by simp)
            have hl632 := logIn.fr hl611 hF623 (by simp)
            refine WD.pure (NoPanic.then (NoPanic.block (NoPanic.then (NoPanic.then (NoPanic.block (NoPanic.then hN)))))) 0 154 (.pointer (some ⟨p20, 0, none⟩)) (by kernel_rfl) (fun _ => by kernel_rfl) hS625 ?_
            refine WD.load (NoPanic.then (NoPanic.block (NoPanic.then (NoPanic.then (NoPanic.block (NoPanic.then hN)))))) 2 50 (.pointer (some ⟨g589, 0, none⟩)) (.agg #[.int .i64 V.an, .int .i64 V.ad]) 156 (by kernel_rfl) (by kernel_rfl) (fun _ hS_ => run_ld (Fr.has hS_ (hC624.get 4 rfl) (by simp)) rfl) hS625 ?_
            refine WD.call 1 (by kernel_rfl) rfl rfl rfl rfl rfl (by kernel_rfl) (PromVS FA495 p20 (⟨e52.1, e52.2, V.an, V.ad, V.log, V.node⟩ : Vo) sp19 (putL N kP (bytesN [e52.1, e52.2])) (putL N kP (bytesN [e52.1, e52.2])) 4194304 w622 hvs626) ?_
            rintro _ w634 ⟨rfl, hF633⟩
            have hS636 := hS625.trans hF633 (by simp)
            refine ⟨_, rfl, hS636, ?_⟩
            have hC635 := hC624.call hF633
            have hvs637 := vsAt_fr hvs626 hF633 (by simp)
            have ho638 := own_fr ho627 hF633 (by simp)
            have hl639 := logIn.fr hl628 hF633 (by simp)
            have ho640 := own_fr ho629 hF633 (by simp)
            have hl641 := logIn.fr hl630 hF633 (by simp)
            have ho642 := own_fr ho631 hF633 (by simp)
            have hl643 := logIn.fr hl632 hF633 (by simp)
            refine WD.call 3 (by kernel_rfl) rfl rfl rfl rfl rfl (by kernel_rfl) (Less_ct e52.1 e52.2 V.an V.ad w634) ?_
            rintro _ w645 ⟨rfl, hF644⟩
            have hS647 := hS636.trans hF644 (by simp)
            refine ⟨_, rfl, hS647, ?_⟩
            have hC646 := hC635.call hF644
            have hvs648 := vsAt_fr hvs637 hF644 (by simp)
            have ho649 := own_fr ho638 hF644 (by simp)
            have hl650 := logIn.fr hl639 hF644 (by simp)
            have ho651 := own_fr ho640 hF644 (by simp)
            have hl652 := logIn.fr hl641 hF644 (by simp)
            have ho653 := own_fr ho642 hF644 (by simp)
            have hl654 := logIn.fr hl643 hF644 (by simp)
            refine WD.done (by kernel_rfl) ?_
            refine QX.then_normal (hK621 _ _ ?_)
            refine WC.know 157 (.bool (lessB e52.1 e52.2 V.an V.ad)) (.bool false) rfl (congrArg Value.bool (by exact less_tr (asked_yes hE490).2 hless)) ?_
            refine WC.cond_false rfl ?_
            refine WC.skip ?_
            refine QX.block_normal ?_
            refine QX.then_normal (hK49 _ _ ?_)
            refine WC.region ?_
            refine WL.runs 1 [(158, .int .i64 (IntKind.i64.wrap ((i : Int) + 1)))] (fun _ => by kernel_rfl) ?_
            refine WL.recast (show (.int .i64 (IntKind.i64.wrap ((i : Int) + 1)) : Value) = .int .i64 ((i : Int) + 1) from by rw [wrap_in_i64 ((i : Int) + 1) (by omega) (by omega)]) ?_
            refine WL.runs 1 [(35, .int .i64 ((i : Int) + 1))] (fun _ => by kernel_rfl) ?_
            refine WL.done rfl ?_
            refine QX.then_normal ?_
            have hC655 := hC646.pick [] [0] rfl rfl
            refine fun a_ ha_ => hK38 _ _ _ ?_ ⟨i + 1, k, FA495, (⟨e52.1, e52.2, V.an, V.ad, V.log, V.node⟩ : Vo), (putL N kP (bytesN [e52.1, e52.2])), rfl, rfl, hC655, hvs648, by omega, by omega, by omega, less_tr (asked_yes hE490).2 hless, Nat.le_trans (used_prep N e52.1 e52.2) (by omega)⟩ a_ (ha_.weaken (sub_of ⟨rfl, rfl, rfl, rfl, rfl, rfl, rfl, rfl, trivial⟩))
            omega
          · skip
            refine WL.call rfl rfl rfl rfl rfl (by kernel_rfl) (PrepVS_no FA p20 V sp19 N N 4194304 w479 hvs483 e52.1 e52.2 (hbi _ (List.mem_of_getElem? he53)).2 hE490) ?_
            rintro _ w657 ⟨rfl, hF656⟩
            refine ⟨_, rfl, ?_⟩
            have hC658 := hC481.call hF656
            have hvs659 := vsAt_fr hvs483 hF656 (by simp)
            have ho660 := own_fr ho484 hF656 (by simp)
            have hl661 := logIn.fr hl485 hF656 (by simp)
            refine WL.runs 4 [(71, errV 35 (askedE V e52.1 e52.2)), (70, .slice none 0 0), (69, .agg #[.int .i64 0, .int .i64 0]), (65, .tuple #[.agg #[.int .i64 0, .int .i64 0], .slice none 0 0, errV 35 (askedE V e52.1 e52.2)])] (fun _ => by kernel_rfl) ?_
            refine WL.storeM (c' := #[.int .i64 0, .int .i64 0]) hC658 3 50 g478 0 (.agg #[.int .i64 0, .int .i64 0]) (by kernel_rfl) rfl (by kernel_rfl) (fun w662 hF664 hC665 => ?_)
            have hvs666 := vsAt_fr hvs659 hF664 (hC658.apartM 0 3 rfl rfl)
            have ho667 := own_fr ho660 hF664 (hC658.apartM 1 3 rfl rfl)
            have hl668 := logIn.fr hl661 hF664 (hC658.apartM 2 3 rfl rfl)
            refine WL.runs 2 [(13, errV 35 (askedE V e52.1 e52.2)), (15, .slice none 0 0)] (fun _ => by kernel_rfl) ?_
            refine WL.done rfl ?_
            refine QX.then_normal (hK489 _ _ ?_)
            refine WC.seq (fun K669 hK670 => ?_)
            refine WC.region ?_
            refine WL.runs 1 [(72, errV 35 (askedE V e52.1 e52.2))] (fun _ => by kernel_rfl) ?_
            have hr671 : ∀ w_, Sem.run Try.prog (do eqGuard .eql 27 (Operand.tmp 72) (Operand.const (.nilIface)) (errV 35 (askedE V e52.1 e52.2)) (.nilIface); binOp .eql 27 (errV 35 (askedE V e52.1 e52.2)) (.nilIface)) w_ = .ok (.bool (decide (askedE V e52.1 e52.2 = 0))) w_ := fun w_ => (err_eql _ (askedE V e52.1 e52.2) (decide (askedE V e52.1 e52.2 = 0)) (by rfl) _)
            refine WL.sem (do eqGuard .eql 27 (Operand.tmp 72) (Operand.const (.nilIface)) (errV 35 (askedE V e52.1 e52.2)) (.nilIface); binOp .eql 27 (errV 35 (askedE V e52.1 e52.2)) (.nilIface)) 73 (.bool (decide (askedE V e52.1 e52.2 = 0))) (by kernel_rfl) (hr671 _) ?_
            refine WL.runs 1 [(74, .bool (decide (askedE V e52.1 e52.2 = 0)))] (fun _ => by kernel_rfl) ?_
            refine WL.know 74 (.bool (decide (askedE V e52.1 e52.2 = 0))) (.bool false) rfl (congrArg Value.bool (by simp [hE490])) ?_
            refine WL.runs 10 [(84, .bool false), (83, undef), (82, undef), (81, undef), (80, undef), (79, undef), (78, undef), (77, undef), (76, undef), (75, undef)] (fun _ => by kernel_rfl) ?_
            refine WL.done rfl ?_
            refine QX.then_normal (hK670 _ _ ?_)
            refine WC.cond_false rfl ?_
            refine WC.skip ?_
            refine QX.then_normal (hK121 _ _ ?_)
            refine WC.seq (fun K672 hK673 => ?_)
            refine WC.seq (fun K674 hK675 => ?_)
            refine WC.drawC hC665 [] (by kernel_rfl) (fun w676 hF677 hC678 hS679 => ?_)
            have hvs680 := vsAt_fr hvs666 hF677 (by simp)
            have ho681 := own_fr ho667 hF677 (by simp)
            have hl682 := logIn.fr hl668 hF677 (by simp)
            refine WD.pure (NoPanic.then (NoPanic.then (NoPanic.block (NoPanic.then (NoPanic.then (NoPanic.block (NoPanic.then hN))))))) 0 85 (errV 35 (askedE V e52.1 e52.2)) (by kernel_rfl) (fun _ => by kernel_rfl) hS679 ?_
            have hr683 : ∀ w_, Sem.run Try.prog (do eqGuard .eql 27 (Operand.tmp 85) (Operand.const (.nilIface)) (errV 35 (askedE V e52.1 e52.2)) (.nilIface); binOp .eql 27 (errV 35 (askedE V e52.1 e52.2)) (.nilIface)) w_ = .ok (.bool (decide (askedE V e52.1 e52.2 = 0))) w_ := fun w_ => (err_eql _ (askedE V e52.1 e52.2) (decide (askedE V e52.1 e52.2 = 0)) (by rfl) _)
            refine WD.semP (NoPanic.then (NoPanic.then (NoPanic.block (NoPanic.then (NoPanic.then (NoPanic.block (NoPanic.then hN))))))) 1 (do eqGuard .eql 27 (Operand.tmp 85) (Operand.const (.nilIface)) (errV 35 (askedE V e52.1 e52.2)) (.nilIface); binOp .eql 27 (errV 35 (askedE V e52.1 e52.2)) (.nilIface)) 86 (.bool (decide (askedE V e52.1 e52.2 = 0))) (by kernel_rfl) (by kernel_rfl) (fun _ _ => hr683 _) hS679 ?_
            refine WD.pure (NoPanic.then (NoPanic.then (NoPanic.block (NoPanic.then (NoPanic.then (NoPanic.block (NoPanic.then hN))))))) 2 87 (.bool (decide (askedE V e52.1 e52.2 = 0))) (by kernel_rfl) (fun _ => by kernel_rfl) hS679 ?_
            refine WD.know 87 (.bool (decide (askedE V e52.1 e52.2 = 0))) (.bool false) rfl (congrArg Value.bool (by simp [hE490])) ?_
            refine WD.pure (NoPanic.then (NoPanic.then (NoPanic.block (NoPanic.then (NoPanic.then (NoPanic.block (NoPanic.then hN))))))) 3 88 (undef) (by kernel_rfl) (fun _ => by kernel_rfl) hS679 ?_
            refine WD.pure (NoPanic.then (NoPanic.then (NoPanic.block (NoPanic.then (NoPanic.then (NoPanic.block (NoPanic.then hN))))))) 4 89 (undef) (by kernel_rfl) (fun _ => by kernel_rfl) hS679 ?_
            refine WD.pure (NoPanic.then (NoPanic.then (NoPanic.block (NoPanic.then (NoPanic.then (NoPanic.block (NoPanic.then hN))))))) 5 90 (undef) (by kernel_rfl) (fun _ => by kernel_rfl) hS679 ?_
            refine WD.pure (NoPanic.then (NoPanic.then (NoPanic.block (NoPanic.then (NoPanic.then (NoPanic.block (NoPanic.then hN))))))) 6 91 (undef) (by kernel_rfl) (fun _ => by kernel_rfl) hS679 ?_
            refine WD.pure (NoPanic.then (NoPanic.then (NoPanic.block (NoPanic.then (NoPanic.then (NoPanic.block (NoPanic.then hN))))))) 7 92 (undef) (by kernel_rfl) (fun _ => by kernel_rfl) hS679 ?_
            refine WD.pure (NoPanic.then (NoPanic.then (NoPanic.block (NoPanic.then (NoPanic.then (NoPanic.block (NoPanic.then hN))))))) 8 93 (undef) (by kernel_rfl) (fun _ => by kernel_rfl) hS679 ?_
            refine WD.pure (NoPanic.then (NoPanic.then (NoPanic.block (NoPanic.then (NoPanic.then (NoPanic.block (NoPanic.then hN))))))) 9 94 (undef) (by kernel_rfl) (fun _ => by kernel_rfl) hS679 ?_
            refine WD.pure (NoPanic.then (NoPanic.then (NoPanic.block (NoPanic.then (NoPanic.then (NoPanic.block (NoPanic.then hN))))))) 10 95 (undef) (by kernel_rfl) (fun _ => by kernel_rfl) hS679 ?_
            refine WD.pure (NoPanic.then (NoPanic.then (NoPanic.block (NoPanic.then (NoPanic.then (NoPanic.block (NoPanic.then hN))))))) 11 96 (undef) (by kernel_rfl) (fun _ => by kernel_rfl) hS679 ?_
            refine WD.pure (NoPanic.then (NoPanic.then (NoPanic.block (NoPanic.then (NoPanic.then (NoPanic.block (NoPanic.then hN))))))) 12 97 (.bool false) (by kernel_rfl) (fun _ => by kernel_rfl) hS679 ?_
            refine WD.pure (NoPanic.then (NoPanic.then (NoPanic.block (NoPanic.then (NoPanic.then (NoPanic.block (NoPanic.then hN))))))) 13 98 (.bool false) (by kernel_rfl) (fun _ => by kernel_rfl) hS679 ?_
            refine WD.pure (NoPanic.then (NoPanic.then (NoPanic.block (NoPanic.then (NoPanic.then (NoPanic.block (NoPanic.then hN))))))) 14 99 (errV 35 (askedE V e52.1 e52.2)) (by kernel_rfl) (fun _ => by kernel_rfl) hS679 ?_
            have hr684 : ∀ w_, Sem.run Try.prog (do eqGuard .neq 27 (Operand.tmp 99) (Operand.const (.nilIface)) (errV 35 (askedE V e52.1 e52.2)) (.nilIface); binOp .neq 27 (errV 35 (askedE V e52.1 e52.2)) (.nilIface)) w_ = .ok (.bool (!(decide (askedE V e52.1 e52.2 = 0)))) w_ := fun w_ => (err_neq _ (askedE V e52.1 e52.2) (decide (askedE V e52.1 e52.2 = 0)) (by rfl) _)
            refine WD.semP (NoPanic.then (NoPanic.then (NoPanic.block (NoPanic.then (NoPanic.then (NoPanic.block (NoPanic.then hN))))))) 15 (do eqGuard .neq 27 (Operand.tmp 99) (Operand.const (.nilIface)) (errV 35 (askedE V e52.1 e52.2)) (.nilIface); binOp .neq 27 (errV 35 (askedE V e52.1 e52.2)) (.nilIface)) 100 (.bool (!(decide (askedE V e52.1 e52.2 = 0)))) (by kernel_rfl) (by kernel_rfl) (fun _ _ => hr684 _) hS679 ?_
            refine WD.pure (NoPanic.then (NoPanic.then (NoPanic.block (NoPanic.then (NoPanic.then (NoPanic.block (NoPanic.then hN))))))) 16 101 (.bool (!(decide (askedE V e52.1 e52.2 = 0)))) (by kernel_rfl) (fun _ => by kernel_rfl) hS679 ?_
            refine WD.know 101 (.bool (!(decide (askedE V e52.1 e52.2 = 0)))) (.bool true) rfl (congrArg Value.bool (by simp [hE490])) ?_
            refine WD.pure (NoPanic.then (NoPanic.then (NoPanic.block (NoPanic.then (NoPanic.then (NoPanic.block (NoPanic.then hN))))))) 17 102 (.pointer (some ⟨p20, 0, none⟩)) (by kernel_rfl) (fun _ => by kernel_rfl) hS679 ?_
            refine WD.load (NoPanic.then (NoPanic.then (NoPanic.block (NoPanic.then (NoPanic.then (NoPanic.block (NoPanic.then hN))))))) 19 50 (.pointer (some ⟨g75, 0, none⟩)) (.agg #[.int .i64 V.pn, .int .i64 V.pd]) 104 (by kernel_rfl) (by kernel_rfl) (fun _ hS_ => run_ld (Fr.has hS_ (hC678.get 1 rfl) (by simp)) rfl) hS679 ?_
            refine WD.call 18 (by kernel_rfl) rfl rfl rfl rfl rfl (by kernel_rfl) (PromVS FA p20 V sp19 N N 4194304 w676 hvs680) ?_
            rintro _ w686 ⟨rfl, hF685⟩
            have hS688 := hS679.trans hF685 (by simp)
            refine ⟨_, rfl, hS688, ?_⟩
            have hC687 := hC678.call hF685
            have hvs689 := vsAt_fr hvs680 hF685 (by simp)
            have ho690 := own_fr ho681 hF685 (by simp)
            have hl691 := logIn.fr hl682 hF685 (by simp)
            have hr692 : ∀ w_, Sem.run Try.prog (do eqGuard .neq 50 (Operand.tmp 103) (Operand.tmp 104) (.agg #[.int .i64 V.pn, .int .i64 V.pd]) (.agg #[.int .i64 V.pn, .int .i64 V.pd]); binOp .neq 50 (.agg #[.int .i64 V.pn, .int .i64 V.pd]) (.agg #[.int .i64 V.pn, .int .i64 V.pd])) w_ = .ok (.bool (!(V.pn == V.pn && (V.pd == V.pd && true)))) w_ := fun w_ => (run_neq_S (by kernel_rfl))
            refine WD.semP (NoPanic.then (NoPanic.then (NoPanic.block (NoPanic.then (NoPanic.then (NoPanic.block (NoPanic.then hN))))))) 20 (do eqGuard .neq 50 (Operand.tmp 103) (Operand.tmp 104) (.agg #[.int .i64 V.pn, .int .i64 V.pd]) (.agg #[.int .i64 V.pn, .int .i64 V.pd]); binOp .neq 50 (.agg #[.int .i64 V.pn, .int .i64 V.pd]) (.agg #[.int .i64 V.pn, .int .i64 V.pd])) 105 (.bool (!(V.pn == V.pn && (V.pd == V.pd && true)))) (by kernel_rfl) (by kernel_rfl) (fun _ _ => hr692 _) hS688 ?_
            refine WD.pure (NoPanic.then (NoPanic.then (NoPanic.block (NoPanic.then (NoPanic.then (NoPanic.block (NoPanic.then hN))))))) 21 106 (.bool (!(V.pn == V.pn && (V.pd == V.pd && true)))) (by kernel_rfl) (fun _ => by kernel_rfl) hS688 ?_
            refine WD.pure (NoPanic.then (NoPanic.then (NoPanic.block (NoPanic.then (NoPanic.then (NoPanic.block (NoPanic.then hN))))))) 22 107 (.bool (!(V.pn == V.pn && (V.pd == V.pd && true)))) (by kernel_rfl) (fun _ => by kernel_rfl) hS688 ?_
            refine WD.done (by kernel_rfl) ?_
            refine QX.then_normal (hK675 _ _ ?_)
            refine WC.know 107 (.bool (!(V.pn == V.pn && (V.pd == V.pd && true)))) (.bool false) rfl (congrArg Value.bool (by simp)) ?_
            refine WC.cond_false rfl ?_
            refine WC.skip ?_
            refine QX.then_normal (hK673 _ _ ?_)
            refine WC.seq (fun K693 hK694 => ?_)
            refine WC.seq (fun K695 hK696 => ?_)
            refine WC.region ?_
            refine WL.runs 2 [(109, .iface 35 (.int .i64 8)), (108, errV 35 (askedE V e52.1 e52.2))] (fun _ => by kernel_rfl) ?_
            have hr697 : ∀ w_, Sem.run Try.prog (do eqGuard .eql 27 (Operand.tmp 108) (Operand.tmp 109) (errV 35 (askedE V e52.1 e52.2)) (.iface 35 (.int .i64 8)); binOp .eql 27 (errV 35 (askedE V e52.1 e52.2)) (.iface 35 (.int .i64 8))) w_ = .ok (.bool (decide ((askedE V e52.1 e52.2) = (8 : Int)))) w_ := fun w_ => (err_eqlc _ _ (askedE V e52.1 e52.2) 8 (by decide) _)
            refine WL.sem (do eqGuard .eql 27 (Operand.tmp 108) (Operand.tmp 109) (errV 35 (askedE V e52.1 e52.2)) (.iface 35 (.int .i64 8)); binOp .eql 27 (errV 35 (askedE V e52.1 e52.2)) (.iface 35 (.int .i64 8))) 110 (.bool (decide ((askedE V e52.1 e52.2) = (8 : Int)))) (by kernel_rfl) (hr697 _) ?_
            refine WL.runs 1 [(111, .bool (decide ((askedE V e52.1 e52.2) = (8 : Int))))] (fun _ => by kernel_rfl) ?_
            refine WL.test_at 111 (decide ((askedE V e52.1 e52.2) = (8 : Int))) rfl (fun t698b => ?_) (fun t698b => ?_)
            · -- (askedE V e52.1 e52.2) = (8 : Int): true
              have t698 : (askedE V e52.1 e52.2) = (8 : Int) := of_decide_eq_true t698b
              refine WL.load 50 (.pointer (some ⟨g58, 0, none⟩)) (.agg #[.int .i64 e52.1, .int .i64 e52.2]) 112 (by kernel_rfl) (run_ld (hC687.get 0 rfl) rfl) ?_
              refine WL.load 50 (.pointer (some ⟨g75, 0, none⟩)) (.agg #[.int .i64 V.pn, .int .i64 V.pd]) 113 (by kernel_rfl) (run_ld (hC687.get 1 rfl) rfl) ?_
              refine WL.call rfl rfl rfl rfl rfl (by kernel_rfl) (Less_ct e52.1 e52.2 V.pn V.pd w686) ?_
              rintro _ w700 ⟨rfl, hF699⟩
              refine ⟨_, rfl, ?_⟩
              have hC701 := hC687.call hF699
              have hvs702 := vsAt_fr hvs689 hF699 (by simp)
              have ho703 := own_fr ho690 hF699 (by simp)
              have hl704 := logIn.fr hl691 hF699 (by simp)
              refine WL.runs 2 [(116, .bool (!(lessB e52.1 e52.2 V.pn V.pd))), (115, .bool (!(lessB e52.1 e52.2 V.pn V.pd)))] (fun _ => by kernel_rfl) ?_
              refine WL.done rfl ?_
              refine QX.then_normal (hK696 _ _ ?_)
              refine WC.know 116 (.bool (!(lessB e52.1 e52.2 V.pn V.pd))) (.bool false) rfl (congrArg Value.bool (by rw [show lessB _ _ _ _ = true from asked_low (of_decide_eq_true t698b)]; rfl)) ?_
              refine WC.cond_false rfl ?_
              refine WC.skip ?_
              refine QX.then_normal (hK694 _ _ ?_)
              refine WC.seq (fun K705 hK706 => ?_)
              refine WC.region ?_
              refine WL.runs 1 [(118, .pointer (some ⟨p20, 0, none⟩))] (fun _ => by kernel_rfl) ?_
              refine WL.call rfl rfl rfl rfl rfl (by kernel_rfl) (AcceptedVS FA p20 V sp19 N N 4194304 w700 hvs702) ?_
              rintro _ w717 ⟨A707, c708, L709, R710, rfl, hF711, ho712, hli713, hvv714, hRg715, hgr716⟩
              have hC718 := callNN hC701 hF711 (own_ge ho712) (own_lt ho712) (fun x_ h_ => (hRg715 x_ h_).1) (fun x_ h_ => (hRg715 x_ h_).2) hgr716
              refine ⟨_, rfl, ?_⟩
              have hvs719 := vsAt_fr hvs702 hF711 (by simp)
              have ho720 := own_fr ho703 hF711 (by simp)
              have hl721 := logIn.fr hl704 hF711 (by simp)
              have ho722 := own_base (b' := 0) ho712 (fun _ _ => Nat.zero_le _)
              have hvvN_L709 : vals L709 = (V.log : List CmdV) := hvv714
              have hll_L709 : L709.length = (V.log : List CmdV).length := by rw [← vals_len, hvvN_L709]
              refine WL.runs 3 [(121, .slice A707 L709.length c708), (120, .agg #[.int .i64 V.an, .int .i64 V.ad]), (117, .tuple #[.agg #[.int .i64 V.an, .int .i64 V.ad], .slice A707 L709.length c708])] (fun _ => by kernel_rfl) ?_
              refine WL.newM hC718 (fun b => .pointer (some ⟨b, 0, none⟩)) (.cells #[.int .i64 0, .int .i64 0] 50) 16 (fun _ => by kernel_rfl) (fun g724 w725 hb728 hF726 hC727 => ?_)
              have hvs729 := vsAt_fr hvs719 hF726 (by simp)
              have ho730 := own_fr ho720 hF726 (by simp)
              have hl731 := logIn.fr hl721 hF726 (by simp)
              have ho732 := own_fr ho722 hF726 (by simp)
              have hl733 := logIn.fr hli713 hF726 (by simp)
              refine WL.storeM (c' := #[.int .i64 V.an, .int .i64 V.ad]) hC727 4 50 g724 0 (.agg #[.int .i64 V.an, .int .i64 V.ad]) (by kernel_rfl) rfl (by kernel_rfl) (fun w734 hF736 hC737 => ?_)
              have hvs738 := vsAt_fr hvs729 hF736 (hC727.apartM 0 4 rfl rfl)
              have ho739 := own_fr ho730 hF736 (hC727.apartM 1 4 rfl rfl)
              have hl740 := logIn.fr hl731 hF736 (hC727.apartM 2 4 rfl rfl)
              have ho741 := own_fr ho732 hF736 (hC727.apartM 3 4 rfl rfl)
              have hl742 := logIn.fr hl733 hF736 (hC727.apartM 4 4 rfl rfl)
              refine WL.runs 1 [(17, .slice A707 L709.length c708)] (fun _ => by kernel_rfl) ?_
              refine WL.done rfl ?_
              refine QX.then_normal (hK706 _ _ ?_)
              refine WC.seq (fun K743 hK744 => ?_)
              refine WC.seq (fun K745 hK746 => ?_)
              refine WC.region ?_
              refine WL.runs 5 [(126, .bool (decide ((i : Int) < (ks.length : Int)))), (125, .bool (decide ((i : Int) < (ks.length : Int)))), (124, .int .i64 (ks.length : Int)), (123, .slice B ks.length c2), (122, .int .i64 (i : Int))] (fun _ => by kernel_rfl) ?_
              refine WL.know 126 (.bool (decide ((i : Int) < (ks.length : Int)))) (.bool true) rfl (congrArg Value.bool (by exact t124b)) ?_
              refine WL.runs 2 [(128, .int .i64 (i : Int)), (127, .slice B ks.length c2)] (fun _ => by kernel_rfl) ?_
              refine WL.index B ks.length c2 129 .i64 (i : Int) b127 o129 i 1 (by kernel_rfl) hA128 (by omega) (by omega) (o129 + i) (by first | (simp; done) | omega) ?_
              refine WL.load 4 (.pointer (some ⟨b127, o129 + i, none⟩)) (.bool e125) 130 (by kernel_rfl) (run_load1 rfl (by simpa [Nat.add_assoc] using hC737.fr.cell (hc130 0 _ rfl) (by simp))) ?_
              refine WL.runs 2 [(132, .bool e125), (131, .bool e125)] (fun _ => by kernel_rfl) ?_
              refine WL.know 132 (.bool e125) (.bool false) rfl (congrArg Value.bool (by exact t131b)) ?_
              refine WL.runs 21 [(153, .bool false), (152, undef), (151, undef), (150, undef), (149, undef), (148, undef), (147, undef), (146, undef), (145, undef), (144, undef), (143, undef), (142, undef), (141, undef), (140, undef), (139, undef), (138, undef), (137, undef), (136, .bool false), (135, .bool false), (134, undef), (133, undef)] (fun _ => by kernel_rfl) ?_
              refine WL.done rfl ?_
              refine QX.then_normal (hK746 _ _ ?_)
              refine WC.cond_false rfl ?_
              refine WC.skip ?_
              refine QX.then_normal (hK744 _ _ ?_)
              refine WC.seq (fun K751 hK752 => ?_)
              refine WC.drawC hC737 [] (by kernel_rfl) (fun w753 hF754 hC755 hS756 => ?_)
              have hvs757 := vsAt_fr hvs738 hF754 (by simp)
              have ho758 := own_fr ho739 hF754 (by simp)
              have hl759 := logIn.fr hl740 hF754 (by simp)
              have ho760 := own_fr ho741 hF754 (by simp)
              have hl761 := logIn.fr hl742 hF754 (by simp)
              refine WD.pure (NoPanic.then (NoPanic.block (NoPanic.then (NoPanic.then (NoPanic.block (NoPanic.then hN)))))) 0 154 (.pointer (some ⟨p20, 0, none⟩)) (by kernel_rfl) (fun _ => by kernel_rfl) hS756 ?_
              refine WD.load (NoPanic.then (NoPanic.block (NoPanic.then (NoPanic.then (NoPanic.block (NoPanic.then hN)))))) 2 50 (.pointer (some ⟨g724, 0, none⟩)) (.agg #[.int .i64 V.an, .int .i64 V.ad]) 156 (by kernel_rfl) (by kernel_rfl) (fun _ hS_ => run_ld (Fr.has hS_ (hC755.get 4 rfl) (by simp)) rfl) hS756 ?_
              refine WD.call 1 (by kernel_rfl) rfl rfl rfl rfl rfl (by kernel_rfl) (PromVS FA p20 V sp19 N N 4194304 w753 hvs757) ?_
              rintro _ w763 ⟨rfl, hF762⟩
              have hS765 := hS756.trans hF762 (by simp)
              refine ⟨_, rfl, hS765, ?_⟩
              have hC764 := hC755.call hF762
              have hvs766 := vsAt_fr hvs757 hF762 (by simp)
              have ho767 := own_fr ho758 hF762 (by simp)
              have hl768 := logIn.fr hl759 hF762 (by simp)
              have ho769 := own_fr ho760 hF762 (by simp)
              have hl770 := logIn.fr hl761 hF762 (by simp)
              refine WD.call 3 (by kernel_rfl) rfl rfl rfl rfl rfl (by kernel_rfl) (Less_ct V.pn V.pd V.an V.ad w763) ?_
              rintro _ w772 ⟨rfl, hF771⟩
              have hS774 := hS765.trans hF771 (by simp)
              refine ⟨_, rfl, hS774, ?_⟩
              have hC773 := hC764.call hF771
              have hvs775 := vsAt_fr hvs766 hF771 (by simp)
              have ho776 := own_fr ho767 hF771 (by simp)
              have hl777 := logIn.fr hl768 hF771 (by simp)
              have ho778 := own_fr ho769 hF771 (by simp)
              have hl779 := logIn.fr hl770 hF771 (by simp)
              refine WD.done (by kernel_rfl) ?_
              refine QX.then_normal (hK752 _ _ ?_)
              refine WC.know 157 (.bool (lessB V.pn V.pd V.an V.ad)) (.bool false) rfl (congrArg Value.bool (by exact hless)) ?_
              refine WC.cond_false rfl ?_
              refine WC.skip ?_
              refine QX.block_normal ?_
              refine QX.then_normal (hK49 _ _ ?_)
              refine WC.region ?_
              refine WL.runs 1 [(158, .int .i64 (IntKind.i64.wrap ((i : Int) + 1)))] (fun _ => by kernel_rfl) ?_
              refine WL.recast (show (.int .i64 (IntKind.i64.wrap ((i : Int) + 1)) : Value) = .int .i64 ((i : Int) + 1) from by rw [wrap_in_i64 ((i : Int) + 1) (by omega) (by omega)]) ?_
              refine WL.runs 1 [(35, .int .i64 ((i : Int) + 1))] (fun _ => by kernel_rfl) ?_
              refine WL.done rfl ?_
              refine QX.then_normal ?_
              have hC780 := hC773.pick [] [0] rfl rfl
              refine fun a_ ha_ => hK38 _ _ _ ?_ ⟨i + 1, k, FA, V, N, rfl, rfl, hC780, hvs775, by omega, by omega, by omega, hless, by omega⟩ a_ (ha_.weaken (sub_of ⟨rfl, rfl, rfl, rfl, rfl, rfl, rfl, rfl, trivial⟩))
              omega
            · -- (askedE V e52.1 e52.2) = (8 : Int): false
              have t698 : ¬ ((askedE V e52.1 e52.2) = (8 : Int)) := of_decide_eq_false t698b
              refine WL.runs 5 [(116, .bool false), (115, undef), (114, undef), (113, undef), (112, undef)] (fun _ => by kernel_rfl) ?_
              refine WL.done rfl ?_
              refine QX.then_normal (hK696 _ _ ?_)
              refine WC.cond_false rfl ?_
              refine WC.skip ?_
              refine QX.then_normal (hK694 _ _ ?_)
              refine WC.seq (fun K781 hK782 => ?_)
              refine WC.region ?_
              refine WL.runs 1 [(118, .pointer (some ⟨p20, 0, none⟩))] (fun _ => by kernel_rfl) ?_
              refine WL.call rfl rfl rfl rfl rfl (by kernel_rfl) (AcceptedVS FA p20 V sp19 N N 4194304 w686 hvs689) ?_
              rintro _ w793 ⟨A783, c784, L785, R786, rfl, hF787, ho788, hli789, hvv790, hRg791, hgr792⟩
              have hC794 := callNN hC687 hF787 (own_ge ho788) (own_lt ho788) (fun x_ h_ => (hRg791 x_ h_).1) (fun x_ h_ => (hRg791 x_ h_).2) hgr792
              refine ⟨_, rfl, ?_⟩
              have hvs795 := vsAt_fr hvs689 hF787 (by simp)
              have ho796 := own_fr ho690 hF787 (by simp)
              have hl797 := logIn.fr hl691 hF787 (by simp)
              have ho798 := own_base (b' := 0) ho788 (fun _ _ => Nat.zero_le _)
              have hvvN_L785 : vals L785 = (V.log : List CmdV) := hvv790
              have hll_L785 : L785.length = (V.log : List CmdV).length := by rw [← vals_len, hvvN_L785]
              refine WL.runs 3 [(121, .slice A783 L785.length c784), (120, .agg #[.int .i64 V.an, .int .i64 V.ad]), (117, .tuple #[.agg #[.int .i64 V.an, .int .i64 V.ad], .slice A783 L785.length c784])] (fun _ => by kernel_rfl) ?_
              refine WL.newM hC794 (fun b => .pointer (some ⟨b, 0, none⟩)) (.cells #[.int .i64 0, .int .i64 0] 50) 16 (fun _ => by kernel_rfl) (fun g800 w801 hb804 hF802 hC803 => ?_)
              have hvs805 := vsAt_fr hvs795 hF802 (by simp)
              have ho806 := own_fr ho796 hF802 (by simp)
              have hl807 := logIn.fr hl797 hF802 (by simp)
              have ho808 := own_fr ho798 hF802 (by simp)
              have hl809 := logIn.fr hli789 hF802 (by simp)
              refine WL.storeM (c' := #[.int .i64 V.an, .int .i64 V.ad]) hC803 4 50 g800 0 (.agg #[.int .i64 V.an, .int .i64 V.ad]) (by kernel_rfl) rfl (by kernel_rfl) (fun w810 hF812 hC813 => ?_)
              have hvs814 := vsAt_fr hvs805 hF812 (hC803.apartM 0 4 rfl rfl)
              have ho815 := own_fr ho806 hF812 (hC803.apartM 1 4 rfl rfl)
              have hl816 := logIn.fr hl807 hF812 (hC803.apartM 2 4 rfl rfl)
              have ho817 := own_fr ho808 hF812 (hC803.apartM 3 4 rfl rfl)
              have hl818 := logIn.fr hl809 hF812 (hC803.apartM 4 4 rfl rfl)
              refine WL.runs 1 [(17, .slice A783 L785.length c784)] (fun _ => by kernel_rfl) ?_
              refine WL.done rfl ?_
              refine QX.then_normal (hK782 _ _ ?_)
              refine WC.seq (fun K819 hK820 => ?_)
              refine WC.seq (fun K821 hK822 => ?_)
              refine WC.region ?_
              refine WL.runs 5 [(126, .bool (decide ((i : Int) < (ks.length : Int)))), (125, .bool (decide ((i : Int) < (ks.length : Int)))), (124, .int .i64 (ks.length : Int)), (123, .slice B ks.length c2), (122, .int .i64 (i : Int))] (fun _ => by kernel_rfl) ?_
              refine WL.know 126 (.bool (decide ((i : Int) < (ks.length : Int)))) (.bool true) rfl (congrArg Value.bool (by exact t124b)) ?_
              refine WL.runs 2 [(128, .int .i64 (i : Int)), (127, .slice B ks.length c2)] (fun _ => by kernel_rfl) ?_
              refine WL.index B ks.length c2 129 .i64 (i : Int) b127 o129 i 1 (by kernel_rfl) hA128 (by omega) (by omega) (o129 + i) (by first | (simp; done) | omega) ?_
              refine WL.load 4 (.pointer (some ⟨b127, o129 + i, none⟩)) (.bool e125) 130 (by kernel_rfl) (run_load1 rfl (by simpa [Nat.add_assoc] using hC813.fr.cell (hc130 0 _ rfl) (by simp))) ?_
              refine WL.runs 2 [(132, .bool e125), (131, .bool e125)] (fun _ => by kernel_rfl) ?_
              refine WL.know 132 (.bool e125) (.bool false) rfl (congrArg Value.bool (by exact t131b)) ?_
              refine WL.runs 21 [(153, .bool false), (152, undef), (151, undef), (150, undef), (149, undef), (148, undef), (147, undef), (146, undef), (145, undef), (144, undef), (143, undef), (142, undef), (141, undef), (140, undef), (139, undef), (138, undef), (137, undef), (136, .bool false), (135, .bool false), (134, undef), (133, undef)] (fun _ => by kernel_rfl) ?_
              refine WL.done rfl ?_
              refine QX.then_normal (hK822 _ _ ?_)
              refine WC.cond_false rfl ?_
              refine WC.skip ?_
              refine QX.then_normal (hK820 _ _ ?_)
              refine WC.seq (fun K827 hK828 => ?_)
              refine WC.drawC hC813 [] (by kernel_rfl) (fun w829 hF830 hC831 hS832 => ?_)
              have hvs833 := vsAt_fr hvs814 hF830 (by simp)
              have ho834 := own_fr ho815 hF830 (by simp)
              have hl835 := logIn.fr hl816 hF830 (by simp)
              have ho836 := own_fr ho817 hF830 (by simp)
              have hl837 := logIn.fr hl818 hF830 (by simp)
              refine WD.pure (NoPanic.then (NoPanic.block (NoPanic.then (NoPanic.then (NoPanic.block (NoPanic.then hN)))))) 0 154 (.pointer (some ⟨p20, 0, none⟩)) (by kernel_rfl) (fun _ => by kernel_rfl) hS832 ?_
              refine WD.load (NoPanic.then (NoPanic.block (NoPanic.then (NoPanic.then (NoPanic.block (NoPanic.then hN)))))) 2 50 (.pointer (some ⟨g800, 0, none⟩)) (.agg #[.int .i64 V.an, .int .i64 V.ad]) 156 (by kernel_rfl) (by kernel_rfl) (fun _ hS_ => run_ld (Fr.has hS_ (hC831.get 4 rfl) (by simp)) rfl) hS832 ?_
              refine WD.call 1 (by kernel_rfl) rfl rfl rfl rfl rfl (by kernel_rfl) (PromVS FA p20 V sp19 N N 4194304 w829 hvs833) ?_
              rintro _ w839 ⟨rfl, hF838⟩
              have hS841 := hS832.trans hF838 (by simp)
              refine ⟨_, rfl, hS841, ?_⟩
              have hC840 := hC831.call hF838
              have hvs842 := vsAt_fr hvs833 hF838 (by simp)
              have ho843 := own_fr ho834 hF838 (by simp)
              have hl844 := logIn.fr hl835 hF838 (by simp)
              have ho845 := own_fr ho836 hF838 (by simp)
              have hl846 := logIn.fr hl837 hF838 (by simp)
              refine WD.call 3 (by kernel_rfl) rfl rfl rfl rfl rfl (by kernel_rfl) (Less_ct V.pn V.pd V.an V.ad w839) ?_
              rintro _ w848 ⟨rfl, hF847⟩
              have hS850 := hS841.trans hF847 (by simp)
              refine ⟨_, rfl, hS850, ?_⟩
              have hC849 := hC840.call hF847
              have hvs851 := vsAt_fr hvs842 hF847 (by simp)
              have ho852 := own_fr ho843 hF847 (by simp)
              have hl853 := logIn.fr hl844 hF847 (by simp)
              have ho854 := own_fr ho845 hF847 (by simp)
              have hl855 := logIn.fr hl846 hF847 (by simp)
              refine WD.done (by kernel_rfl) ?_
              refine QX.then_normal (hK828 _ _ ?_)
              refine WC.know 157 (.bool (lessB V.pn V.pd V.an V.ad)) (.bool false) rfl (congrArg Value.bool (by exact hless)) ?_
              refine WC.cond_false rfl ?_
              refine WC.skip ?_
              refine QX.block_normal ?_
              refine QX.then_normal (hK49 _ _ ?_)
              refine WC.region ?_
              refine WL.runs 1 [(158, .int .i64 (IntKind.i64.wrap ((i : Int) + 1)))] (fun _ => by kernel_rfl) ?_
              refine WL.recast (show (.int .i64 (IntKind.i64.wrap ((i : Int) + 1)) : Value) = .int .i64 ((i : Int) + 1) from by rw [wrap_in_i64 ((i : Int) + 1) (by omega) (by omega)]) ?_
              refine WL.runs 1 [(35, .int .i64 ((i : Int) + 1))] (fun _ => by kernel_rfl) ?_
              refine WL.done rfl ?_
              refine QX.then_normal ?_
              have hC856 := hC849.pick [] [0] rfl rfl
              refine fun a_ ha_ => hK38 _ _ _ ?_ ⟨i + 1, k, FA, V, N, rfl, rfl, hC856, hvs851, by omega, by omega, by omega, hless, by omega⟩ a_ (ha_.weaken (sub_of ⟨rfl, rfl, rfl, rfl, rfl, rfl, rfl, rfl, trivial⟩))
              omega
      · -- (i : Int) < (ks.length : Int): false
        have t124 : (ks.length : Int) ≤ (i : Int) := by have q_ := of_decide_eq_false t124b; omega
        refine WL.runs 5 [(56, .bool false), (55, undef), (54, undef), (53, undef), (52, undef)] (fun _ => by kernel_rfl) ?_
        refine WL.done rfl ?_
        refine QX.then_normal (hK123 _ _ ?_)
        refine WC.cond_false rfl ?_
        refine WC.seq (fun K857 hK858 => ?_)
        refine WC.region ?_
        refine WL.newM hC114 (fun b => .pointer (some ⟨b, 0, none⟩)) (.cells #[.int .i64 0, .int .i64 0] 50) 14 (fun _ => by kernel_rfl) (fun g859 w860 hb863 hF861 hC862 => ?_)
        have hvs864 := vsAt_fr hvs115 hF861 (by simp)
        have ho865 := own_fr ho116 hF861 (by simp)
        have hl866 := logIn.fr hl117 hF861 (by simp)
        refine WL.done rfl ?_
        refine QX.then_normal (hK858 _ _ ?_)
        refine WC.seq (fun K867 hK868 => ?_)
        refine WC.region ?_
        refine WL.runs 1 [(15, .slice none 0 0)] (fun _ => by kernel_rfl) ?_
        refine WL.done rfl ?_
        refine QX.then_normal (hK868 _ _ ?_)
        refine WC.seq (fun K869 hK870 => ?_)
        refine WC.region ?_
        refine WL.runs 1 [(66, .pointer (some ⟨p20, 0, none⟩))] (fun _ => by kernel_rfl) ?_
        refine WL.load 50 (.pointer (some ⟨g58, 0, none⟩)) (.agg #[.int .i64 e52.1, .int .i64 e52.2]) 67 (by kernel_rfl) (run_ld (hC862.get 0 rfl) rfl) ?_
        rcases Classical.em (askedE V e52.1 e52.2 = 0) with hE871 | hE871
        · skip
          refine WL.call rfl rfl rfl rfl rfl (by kernel_rfl) (PrepVS_yes FA p20 V sp19 N N 4194304 w860 hvs864 e52.1 e52.2 (hbi _ (List.mem_of_getElem? he53)).2 hE871 (room_prep (by omega))) ?_
          rintro _ w886 ⟨A872, c873, L874, R875, FA876, rfl, hF877, hvs878, hsub879, hdj880, ho881, hli882, hvv883, hRg884, hgr885⟩
          have hC887 := callFLog hC862 0 rfl hF877 hsub879 (vsAt_lt hvs878) (own_ge ho881) (own_lt ho881) hRg884 hgr885 hdj880
          refine ⟨_, rfl, ?_⟩
          have ho888 := own_fr ho865 hF877 (hC862.disj 1 0 rfl rfl (by decide))
          have hl889 := logIn.fr hl866 hF877 (hC862.disj 2 0 rfl rfl (by decide))
          have ho890 := own_base (b' := 0) ho881 (fun _ _ => Nat.zero_le _)
          have hvvN_L874 : vals L874 = (V.log : List CmdV) := hvv883
          have hll_L874 : L874.length = (V.log : List CmdV).length := by rw [← vals_len, hvvN_L874]
          have hvsN892 : vsAt w886 FA876 p20 (⟨e52.1, e52.2, V.an, V.ad, V.log, V.node⟩ : Vo) sp19 (putL N kP (bytesN [e52.1, e52.2])) (putL N kP (bytesN [e52.1, e52.2])) 4194304 := hvs878
          refine WL.runs 4 [(71, .nilIface), (70, .slice A872 L874.length c873), (69, .agg #[.int .i64 V.an, .int .i64 V.ad]), (65, .tuple #[.agg #[.int .i64 V.an, .int .i64 V.ad], .slice A872 L874.length c873, .nilIface])] (fun _ => by kernel_rfl) ?_
          refine WL.storeM (c' := #[.int .i64 V.an, .int .i64 V.ad]) hC887 3 50 g859 0 (.agg #[.int .i64 V.an, .int .i64 V.ad]) (by kernel_rfl) rfl (by kernel_rfl) (fun w893 hF895 hC896 => ?_)
          have hvs897 := vsAt_fr hvsN892 hF895 (hC887.apartM 0 3 rfl rfl)
          have ho898 := own_fr ho888 hF895 (hC887.apartM 1 3 rfl rfl)
          have hl899 := logIn.fr hl889 hF895 (hC887.apartM 2 3 rfl rfl)
          have ho900 := own_fr ho890 hF895 (hC887.apartM 3 3 rfl rfl)
          have hl901 := logIn.fr hli882 hF895 (hC887.apartM 4 3 rfl rfl)
          refine WL.runs 2 [(13, .nilIface), (15, .slice A872 L874.length c873)] (fun _ => by kernel_rfl) ?_
          refine WL.done rfl ?_
          refine QX.then_normal (hK870 _ _ ?_)
          refine WC.seq (fun K902 hK903 => ?_)
          refine WC.region ?_
          refine WL.runs 3 [(74, .bool true), (73, .bool true), (72, .nilIface)] (fun _ => by kernel_rfl) ?_
          refine WL.load 50 (.pointer (some ⟨g859, 0, none⟩)) (.agg #[.int .i64 V.an, .int .i64 V.ad]) 75 (by kernel_rfl) (run_ld (hC896.get 3 rfl) rfl) ?_
          refine WL.load 50 (.pointer (some ⟨g103, 0, none⟩)) (.agg #[.int .i64 V.an, .int .i64 V.ad]) 76 (by kernel_rfl) (run_ld (hC896.get 2 rfl) rfl) ?_
          have hr904 : ∀ w_, Sem.run Try.prog (do eqGuard .neq 50 (Operand.tmp 75) (Operand.tmp 76) (.agg #[.int .i64 V.an, .int .i64 V.ad]) (.agg #[.int .i64 V.an, .int .i64 V.ad]); binOp .neq 50 (.agg #[.int .i64 V.an, .int .i64 V.ad]) (.agg #[.int .i64 V.an, .int .i64 V.ad])) w_ = .ok (.bool (!(V.an == V.an && (V.ad == V.ad && true)))) w_ := fun w_ => (run_neq_S (by kernel_rfl))
          refine WL.sem (do eqGuard .neq 50 (Operand.tmp 75) (Operand.tmp 76) (.agg #[.int .i64 V.an, .int .i64 V.ad]) (.agg #[.int .i64 V.an, .int .i64 V.ad]); binOp .neq 50 (.agg #[.int .i64 V.an, .int .i64 V.ad]) (.agg #[.int .i64 V.an, .int .i64 V.ad])) 77 (.bool (!(V.an == V.an && (V.ad == V.ad && true)))) (by kernel_rfl) (hr904 _) ?_
          refine WL.runs 1 [(78, .bool (!(V.an == V.an && (V.ad == V.ad && true))))] (fun _ => by kernel_rfl) ?_
          refine WL.know 78 (.bool (!(V.an == V.an && (V.ad == V.ad && true)))) (.bool false) rfl (congrArg Value.bool (by simp)) ?_
          refine WL.runs 2 [(80, .slice A88 L90.length c89), (79, .slice A872 L874.length c873)] (fun _ => by kernel_rfl) ?_
          refine WL.call rfl rfl rfl rfl rfl (by kernel_rfl) (RSame_n A872 A88 L874.length c873 L90.length c89 L874 L90 w893 (own_rd ho900 cellsC_len (by decide)) (own_rd ho898 cellsC_len (by decide)) rfl rfl (fun m_ h_ => hl901.at_ m_ h_) (fun m_ h_ => hl899.at_ m_ h_) (Nat.le_trans (Nat.le_of_eq hll_L874) (vs_loglen hvs))) ?_
          rintro _ w906 ⟨rfl, hF905⟩
          refine ⟨_, rfl, ?_⟩
          have hC907 := hC896.call hF905
          have hvs908 := vsAt_fr hvs897 hF905 (by simp)
          have ho909 := own_fr ho898 hF905 (by simp)
          have hl910 := logIn.fr hl899 hF905 (by simp)
          have ho911 := own_fr ho900 hF905 (by simp)
          have hl912 := logIn.fr hl901 hF905 (by simp)
          refine WL.runs 3 [(84, .bool (!(decide (vals L874 = vals L90)))), (83, .bool (!(decide (vals L874 = vals L90)))), (82, .bool (!(decide (vals L874 = vals L90))))] (fun _ => by kernel_rfl) ?_
          refine WL.done rfl ?_
          refine QX.then_normal (hK903 _ _ ?_)
          refine WC.know 84 (.bool (!(decide (vals L874 = vals L90)))) (.bool false) rfl (congrArg Value.bool (by simp [hvvN_L874, hvvN_L90])) ?_
          refine WC.cond_false rfl ?_
          refine WC.skip ?_
          refine QX.then_normal (hK121 _ _ ?_)
          refine WC.seq (fun K913 hK914 => ?_)
          refine WC.seq (fun K915 hK916 => ?_)
          refine WC.drawC hC907 [] (by kernel_rfl) (fun w917 hF918 hC919 hS920 => ?_)
          have hvs921 := vsAt_fr hvs908 hF918 (by simp)
          have ho922 := own_fr ho909 hF918 (by simp)
          have hl923 := logIn.fr hl910 hF918 (by simp)
          have ho924 := own_fr ho911 hF918 (by simp)
          have hl925 := logIn.fr hl912 hF918 (by simp)
          refine WD.pure (NoPanic.then (NoPanic.then (NoPanic.block (NoPanic.then (NoPanic.then (NoPanic.block (NoPanic.then hN))))))) 0 85 (.nilIface) (by kernel_rfl) (fun _ => by kernel_rfl) hS920 ?_
          refine WD.pure (NoPanic.then (NoPanic.then (NoPanic.block (NoPanic.then (NoPanic.then (NoPanic.block (NoPanic.then hN))))))) 1 86 (.bool true) (by kernel_rfl) (fun _ => by kernel_rfl) hS920 ?_
          refine WD.pure (NoPanic.then (NoPanic.then (NoPanic.block (NoPanic.then (NoPanic.then (NoPanic.block (NoPanic.then hN))))))) 2 87 (.bool true) (by kernel_rfl) (fun _ => by kernel_rfl) hS920 ?_
          refine WD.pure (NoPanic.then (NoPanic.then (NoPanic.block (NoPanic.then (NoPanic.then (NoPanic.block (NoPanic.then hN))))))) 3 88 (.pointer (some ⟨p20, 0, none⟩)) (by kernel_rfl) (fun _ => by kernel_rfl) hS920 ?_
          refine WD.load (NoPanic.then (NoPanic.then (NoPanic.block (NoPanic.then (NoPanic.then (NoPanic.block (NoPanic.then hN))))))) 5 50 (.pointer (some ⟨g58, 0, none⟩)) (.agg #[.int .i64 e52.1, .int .i64 e52.2]) 90 (by kernel_rfl) (by kernel_rfl) (fun _ hS_ => run_ld (Fr.has hS_ (hC919.get 0 rfl) (by simp)) rfl) hS920 ?_
          refine WD.call 4 (by kernel_rfl) rfl rfl rfl rfl rfl (by kernel_rfl) (PromVS FA876 p20 (⟨e52.1, e52.2, V.an, V.ad, V.log, V.node⟩ : Vo) sp19 (putL N kP (bytesN [e52.1, e52.2])) (putL N kP (bytesN [e52.1, e52.2])) 4194304 w917 hvs921) ?_
          rintro _ w927 ⟨rfl, hF926⟩
          have hS929 := hS920.trans hF926 (by simp)
          refine ⟨_, rfl, hS929, ?_⟩
          have hC928 := hC919.call hF926
          have hvs930 := vsAt_fr hvs921 hF926 (by simp)
          have ho931 := own_fr ho922 hF926 (by simp)
          have hl932 := logIn.fr hl923 hF926 (by simp)
          have ho933 := own_fr ho924 hF926 (by simp)
          have hl934 := logIn.fr hl925 hF926 (by simp)
          have hr935 : ∀ w_, Sem.run Try.prog (do eqGuard .neq 50 (Operand.tmp 89) (Operand.tmp 90) (.agg #[.int .i64 e52.1, .int .i64 e52.2]) (.agg #[.int .i64 e52.1, .int .i64 e52.2]); binOp .neq 50 (.agg #[.int .i64 e52.1, .int .i64 e52.2]) (.agg #[.int .i64 e52.1, .int .i64 e52.2])) w_ = .ok (.bool (!(e52.1 == e52.1 && (e52.2 == e52.2 && true)))) w_ := fun w_ => (run_neq_S (by kernel_rfl))
          refine WD.semP (NoPanic.then (NoPanic.then (NoPanic.block (NoPanic.then (NoPanic.then (NoPanic.block (NoPanic.then hN))))))) 6 (do eqGuard .neq 50 (Operand.tmp 89) (Operand.tmp 90) (.agg #[.int .i64 e52.1, .int .i64 e52.2]) (.agg #[.int .i64 e52.1, .int .i64 e52.2]); binOp .neq 50 (.agg #[.int .i64 e52.1, .int .i64 e52.2]) (.agg #[.int .i64 e52.1, .int .i64 e52.2])) 91 (.bool (!(e52.1 == e52.1 && (e52.2 == e52.2 && true)))) (by kernel_rfl) (by kernel_rfl) (fun _ _ => hr935 _) hS929 ?_
          refine WD.pure (NoPanic.then (NoPanic.then (NoPanic.block (NoPanic.then (NoPanic.then (NoPanic.block (NoPanic.then hN))))))) 7 92 (.bool (!(e52.1 == e52.1 && (e52.2 == e52.2 && true)))) (by kernel_rfl) (fun _ => by kernel_rfl) hS929 ?_
          refine WD.know 92 (.bool (!(e52.1 == e52.1 && (e52.2 == e52.2 && true)))) (.bool false) rfl (congrArg Value.bool (by simp)) ?_
          refine WD.load (NoPanic.then (NoPanic.then (NoPanic.block (NoPanic.then (NoPanic.then (NoPanic.block (NoPanic.then hN))))))) 8 50 (.pointer (some ⟨g58, 0, none⟩)) (.agg #[.int .i64 e52.1, .int .i64 e52.2]) 93 (by kernel_rfl) (by kernel_rfl) (fun _ hS_ => run_ld (Fr.has hS_ (hC919.get 0 rfl) (by simp)) rfl) hS929 ?_
          refine WD.load (NoPanic.then (NoPanic.then (NoPanic.block (NoPanic.then (NoPanic.then (NoPanic.block (NoPanic.then hN))))))) 9 50 (.pointer (some ⟨g75, 0, none⟩)) (.agg #[.int .i64 V.pn, .int .i64 V.pd]) 94 (by kernel_rfl) (by kernel_rfl) (fun _ hS_ => run_ld (Fr.has hS_ (hC919.get 1 rfl) (by simp)) rfl) hS929 ?_
          refine WD.call 10 (by kernel_rfl) rfl rfl rfl rfl rfl (by kernel_rfl) (Less_ct e52.1 e52.2 V.pn V.pd w927) ?_
          rintro _ w937 ⟨rfl, hF936⟩
          have hS939 := hS929.trans hF936 (by simp)
          refine ⟨_, rfl, hS939, ?_⟩
          have hC938 := hC928.call hF936
          have hvs940 := vsAt_fr hvs930 hF936 (by simp)
          have ho941 := own_fr ho931 hF936 (by simp)
          have hl942 := logIn.fr hl932 hF936 (by simp)
          have ho943 := own_fr ho933 hF936 (by simp)
          have hl944 := logIn.fr hl934 hF936 (by simp)
          refine WD.pure (NoPanic.then (NoPanic.then (NoPanic.block (NoPanic.then (NoPanic.then (NoPanic.block (NoPanic.then hN))))))) 11 96 (.bool (lessB e52.1 e52.2 V.pn V.pd)) (by kernel_rfl) (fun _ => by kernel_rfl) hS939 ?_
          refine WD.pure (NoPanic.then (NoPanic.then (NoPanic.block (NoPanic.then (NoPanic.then (NoPanic.block (NoPanic.then hN))))))) 12 97 (.bool (lessB e52.1 e52.2 V.pn V.pd)) (by kernel_rfl) (fun _ => by kernel_rfl) hS939 ?_
          refine WD.pure (NoPanic.then (NoPanic.then (NoPanic.block (NoPanic.then (NoPanic.then (NoPanic.block (NoPanic.then hN))))))) 13 98 (.bool (lessB e52.1 e52.2 V.pn V.pd)) (by kernel_rfl) (fun _ => by kernel_rfl) hS939 ?_
          refine WD.know 98 (.bool (lessB e52.1 e52.2 V.pn V.pd)) (.bool false) rfl (congrArg Value.bool (by exact (asked_yes hE871).2)) ?_
          refine WD.pure (NoPanic.then (NoPanic.then (NoPanic.block (NoPanic.then (NoPanic.then (NoPanic.block (NoPanic.then hN))))))) 14 99 (.nilIface) (by kernel_rfl) (fun _ => by kernel_rfl) hS939 ?_
          refine WD.pure (NoPanic.then (NoPanic.then (NoPanic.block (NoPanic.then (NoPanic.then (NoPanic.block (NoPanic.then hN))))))) 15 100 (.bool false) (by kernel_rfl) (fun _ => by kernel_rfl) hS939 ?_
          refine WD.pure (NoPanic.then (NoPanic.then (NoPanic.block (NoPanic.then (NoPanic.then (NoPanic.block (NoPanic.then hN))))))) 16 101 (.bool false) (by kernel_rfl) (fun _ => by kernel_rfl) hS939 ?_
          refine WD.pure (NoPanic.then (NoPanic.then (NoPanic.block (NoPanic.then (NoPanic.then (NoPanic.block (NoPanic.then hN))))))) 17 102 (undef) (by kernel_rfl) (fun _ => by kernel_rfl) hS939 ?_
          refine WD.pure (NoPanic.then (NoPanic.then (NoPanic.block (NoPanic.then (NoPanic.then (NoPanic.block (NoPanic.then hN))))))) 18 103 (undef) (by kernel_rfl) (fun _ => by kernel_rfl) hS939 ?_
          refine WD.pure (NoPanic.then (NoPanic.then (NoPanic.block (NoPanic.then (NoPanic.then (NoPanic.block (NoPanic.then hN))))))) 19 104 (undef) (by kernel_rfl) (fun _ => by kernel_rfl) hS939 ?_
          refine WD.pure (NoPanic.then (NoPanic.then (NoPanic.block (NoPanic.then (NoPanic.then (NoPanic.block (NoPanic.then hN))))))) 20 105 (undef) (by kernel_rfl) (fun _ => by kernel_rfl) hS939 ?_
          refine WD.pure (NoPanic.then (NoPanic.then (NoPanic.block (NoPanic.then (NoPanic.then (NoPanic.block (NoPanic.then hN))))))) 21 106 (.bool false) (by kernel_rfl) (fun _ => by kernel_rfl) hS939 ?_
          refine WD.pure (NoPanic.then (NoPanic.then (NoPanic.block (NoPanic.then (NoPanic.then (NoPanic.block (NoPanic.then hN))))))) 22 107 (.bool false) (by kernel_rfl) (fun _ => by kernel_rfl) hS939 ?_
          refine WD.done (by kernel_rfl) ?_
          refine QX.then_normal (hK916 _ _ ?_)
          refine WC.cond_false rfl ?_
          refine WC.skip ?_
          refine QX.then_normal (hK914 _ _ ?_)
          refine WC.seq (fun K945 hK946 => ?_)
          refine WC.seq (fun K947 hK948 => ?_)
          refine WC.region ?_
          refine WL.runs 9 [(116, .bool false), (115, undef), (114, undef), (113, undef), (112, undef), (111, .bool false), (110, .bool false), (109, .iface 35 (.int .i64 8)), (108, .nilIface)] (fun _ => by kernel_rfl) ?_
          refine WL.done rfl ?_
          refine QX.then_normal (hK948 _ _ ?_)
          refine WC.cond_false rfl ?_
          refine WC.skip ?_
          refine QX.then_normal (hK946 _ _ ?_)
          refine WC.seq (fun K949 hK950 => ?_)
          refine WC.region ?_
          refine WL.runs 1 [(118, .pointer (some ⟨p20, 0, none⟩))] (fun _ => by kernel_rfl) ?_
          refine WL.call rfl rfl rfl rfl rfl (by kernel_rfl) (AcceptedVS FA876 p20 (⟨e52.1, e52.2, V.an, V.ad, V.log, V.node⟩ : Vo) sp19 (putL N kP (bytesN [e52.1, e52.2])) (putL N kP (bytesN [e52.1, e52.2])) 4194304 w937 hvs940) ?_
          rintro _ w961 ⟨A951, c952, L953, R954, rfl, hF955, ho956, hli957, hvv958, hRg959, hgr960⟩
          have hC962 := callNN hC938 hF955 (own_ge ho956) (own_lt ho956) (fun x_ h_ => (hRg959 x_ h_).1) (fun x_ h_ => (hRg959 x_ h_).2) hgr960
          refine ⟨_, rfl, ?_⟩
          have hvs963 := vsAt_fr hvs940 hF955 (by simp)
          have ho964 := own_fr ho941 hF955 (by simp)
          have hl965 := logIn.fr hl942 hF955 (by simp)
          have ho966 := own_fr ho943 hF955 (by simp)
          have hl967 := logIn.fr hl944 hF955 (by simp)
          have ho968 := own_base (b' := 0) ho956 (fun _ _ => Nat.zero_le _)
          have hvvN_L953 : vals L953 = (V.log : List CmdV) := hvv958
          have hll_L953 : L953.length = (V.log : List CmdV).length := by rw [← vals_len, hvvN_L953]
          refine WL.runs 3 [(121, .slice A951 L953.length c952), (120, .agg #[.int .i64 V.an, .int .i64 V.ad]), (117, .tuple #[.agg #[.int .i64 V.an, .int .i64 V.ad], .slice A951 L953.length c952])] (fun _ => by kernel_rfl) ?_
          refine WL.newM hC962 (fun b => .pointer (some ⟨b, 0, none⟩)) (.cells #[.int .i64 0, .int .i64 0] 50) 16 (fun _ => by kernel_rfl) (fun g970 w971 hb974 hF972 hC973 => ?_)
          have hvs975 := vsAt_fr hvs963 hF972 (by simp)
          have ho976 := own_fr ho964 hF972 (by simp)
          have hl977 := logIn.fr hl965 hF972 (by simp)
          have ho978 := own_fr ho966 hF972 (by simp)
          have hl979 := logIn.fr hl967 hF972 (by simp)
          have ho980 := own_fr ho968 hF972 (by simp)
          have hl981 := logIn.fr hli957 hF972 (by simp)
          refine WL.storeM (c' := #[.int .i64 V.an, .int .i64 V.ad]) hC973 4 50 g970 0 (.agg #[.int .i64 V.an, .int .i64 V.ad]) (by kernel_rfl) rfl (by kernel_rfl) (fun w982 hF984 hC985 => ?_)
          have hvs986 := vsAt_fr hvs975 hF984 (hC973.apartM 0 4 rfl rfl)
          have ho987 := own_fr ho976 hF984 (hC973.apartM 1 4 rfl rfl)
          have hl988 := logIn.fr hl977 hF984 (hC973.apartM 2 4 rfl rfl)
          have ho989 := own_fr ho978 hF984 (hC973.apartM 3 4 rfl rfl)
          have hl990 := logIn.fr hl979 hF984 (hC973.apartM 4 4 rfl rfl)
          have ho991 := own_fr ho980 hF984 (hC973.apartM 5 4 rfl rfl)
          have hl992 := logIn.fr hl981 hF984 (hC973.apartM 6 4 rfl rfl)
          refine WL.runs 1 [(17, .slice A951 L953.length c952)] (fun _ => by kernel_rfl) ?_
          refine WL.done rfl ?_
          refine QX.then_normal (hK950 _ _ ?_)
          refine WC.seq (fun K993 hK994 => ?_)
          refine WC.seq (fun K995 hK996 => ?_)
          refine WC.region ?_
          refine WL.runs 5 [(126, .bool (decide ((i : Int) < (ks.length : Int)))), (125, .bool (decide ((i : Int) < (ks.length : Int)))), (124, .int .i64 (ks.length : Int)), (123, .slice B ks.length c2), (122, .int .i64 (i : Int))] (fun _ => by kernel_rfl) ?_
          refine WL.know 126 (.bool (decide ((i : Int) < (ks.length : Int)))) (.bool false) rfl (congrArg Value.bool (by exact t124b)) ?_
          refine WL.runs 27 [(153, .bool false), (152, undef), (151, undef), (150, undef), (149, undef), (148, undef), (147, undef), (146, undef), (145, undef), (144, undef), (143, undef), (142, undef), (141, undef), (140, undef), (139, undef), (138, undef), (137, undef), (136, .bool false), (135, .bool false), (134, undef), (133, undef), (132, .bool false), (131, .bool false), (130, undef), (129, undef), (128, undef), (127, undef)] (fun _ => by kernel_rfl) ?_
          refine WL.done rfl ?_
          refine QX.then_normal (hK996 _ _ ?_)
          refine WC.cond_false rfl ?_
          refine WC.skip ?_
          refine QX.then_normal (hK994 _ _ ?_)
          refine WC.seq (fun K997 hK998 => ?_)
          refine WC.drawC hC985 [] (by kernel_rfl) (fun w999 hF1000 hC1001 hS1002 => ?_)
          have hvs1003 := vsAt_fr hvs986 hF1000 (by simp)
          have ho1004 := own_fr ho987 hF1000 (by simp)
          have hl1005 := logIn.fr hl988 hF1000 (by simp)
          have ho1006 := own_fr ho989 hF1000 (by simp)
          have hl1007 := logIn.fr hl990 hF1000 (by simp)
          have ho1008 := own_fr ho991 hF1000 (by simp)
          have hl1009 := logIn.fr hl992 hF1000 (by simp)
          refine WD.pure (NoPanic.then (NoPanic.block (NoPanic.then (NoPanic.then (NoPanic.block (NoPanic.then hN)))))) 0 154 (.pointer (some ⟨p20, 0, none⟩)) (by kernel_rfl) (fun _ => by kernel_rfl) hS1002 ?_
          refine WD.load (NoPanic.then (NoPanic.block (NoPanic.then (NoPanic.then (NoPanic.block (NoPanic.then hN)))))) 2 50 (.pointer (some ⟨g970, 0, none⟩)) (.agg #[.int .i64 V.an, .int .i64 V.ad]) 156 (by kernel_rfl) (by kernel_rfl) (fun _ hS_ => run_ld (Fr.has hS_ (hC1001.get 4 rfl) (by simp)) rfl) hS1002 ?_
          refine WD.call 1 (by kernel_rfl) rfl rfl rfl rfl rfl (by kernel_rfl) (PromVS FA876 p20 (⟨e52.1, e52.2, V.an, V.ad, V.log, V.node⟩ : Vo) sp19 (putL N kP (bytesN [e52.1, e52.2])) (putL N kP (bytesN [e52.1, e52.2])) 4194304 w999 hvs1003) ?_
          rintro _ w1011 ⟨rfl, hF1010⟩
          have hS1013 := hS1002.trans hF1010 (by simp)
          refine ⟨_, rfl, hS1013, ?_⟩
          have hC1012 := hC1001.call hF1010
          have hvs1014 := vsAt_fr hvs1003 hF1010 (by simp)
          have ho1015 := own_fr ho1004 hF1010 (by simp)
          have hl1016 := logIn.fr hl1005 hF1010 (by simp)
          have ho1017 := own_fr ho1006 hF1010 (by simp)
          have hl1018 := logIn.fr hl1007 hF1010 (by simp)
          have ho1019 := own_fr ho1008 hF1010 (by simp)
          have hl1020 := logIn.fr hl1009 hF1010 (by simp)
          refine WD.call 3 (by kernel_rfl) rfl rfl rfl rfl rfl (by kernel_rfl) (Less_ct e52.1 e52.2 V.an V.ad w1011) ?_
          rintro _ w1022 ⟨rfl, hF1021⟩
          have hS1024 := hS1013.trans hF1021 (by simp)
          refine ⟨_, rfl, hS1024, ?_⟩
          have hC1023 := hC1012.call hF1021
          have hvs1025 := vsAt_fr hvs1014 hF1021 (by simp)
          have ho1026 := own_fr ho1015 hF1021 (by simp)
          have hl1027 := logIn.fr hl1016 hF1021 (by simp)
          have ho1028 := own_fr ho1017 hF1021 (by simp)
          have hl1029 := logIn.fr hl1018 hF1021 (by simp)
          have ho1030 := own_fr ho1019 hF1021 (by simp)
          have hl1031 := logIn.fr hl1020 hF1021 (by simp)
          refine WD.done (by kernel_rfl) ?_
          refine QX.then_normal (hK998 _ _ ?_)
          refine WC.know 157 (.bool (lessB e52.1 e52.2 V.an V.ad)) (.bool false) rfl (congrArg Value.bool (by exact less_tr (asked_yes hE871).2 hless)) ?_
          refine WC.cond_false rfl ?_
          refine WC.skip ?_
          refine QX.block_normal ?_
          refine QX.then_normal (hK49 _ _ ?_)
          refine WC.region ?_
          refine WL.runs 1 [(158, .int .i64 (IntKind.i64.wrap ((i : Int) + 1)))] (fun _ => by kernel_rfl) ?_
          refine WL.recast (show (.int .i64 (IntKind.i64.wrap ((i : Int) + 1)) : Value) = .int .i64 ((i : Int) + 1) from by rw [wrap_in_i64 ((i : Int) + 1) (by omega) (by omega)]) ?_
          refine WL.runs 1 [(35, .int .i64 ((i : Int) + 1))] (fun _ => by kernel_rfl) ?_
          refine WL.done rfl ?_
          refine QX.then_normal ?_
          have hC1032 := hC1023.pick [] [0] rfl rfl
          refine fun a_ ha_ => hK38 _ _ _ ?_ ⟨i + 1, k, FA876, (⟨e52.1, e52.2, V.an, V.ad, V.log, V.node⟩ : Vo), (putL N kP (bytesN [e52.1, e52.2])), rfl, rfl, hC1032, hvs1025, by omega, by omega, by omega, less_tr (asked_yes hE871).2 hless, Nat.le_trans (used_prep N e52.1 e52.2) (by omega)⟩ a_ (ha_.weaken (sub_of ⟨rfl, rfl, rfl, rfl, rfl, rfl, rfl, rfl, trivial⟩))
          omega
        · skip
          refine WL.call rfl rfl rfl rfl rfl (by kernel_rfl) (PrepVS_no FA p20 V sp19 N N 4194304 w860 hvs864 e52.1 e52.2 (hbi _ (List.mem_of_getElem? he53)).2 hE871) ?_
          rintro _ w1034 ⟨rfl, hF1033⟩
          refine ⟨_, rfl, ?_⟩
          have hC1035 := hC862.call hF1033
          have hvs1036 := vsAt_fr hvs864 hF1033 (by simp)
          have ho1037 := own_fr ho865 hF1033 (by simp)
          have hl1038 := logIn.fr hl866 hF1033 (by simp)
          refine WL.runs 4 [(71, errV 35 (askedE V e52.1 e52.2)), (70, .slice none 0 0), (69, .agg #[.int .i64 0, .int .i64 0]), (65, .tuple #[.agg #[.int .i64 0, .int .i64 0], .slice none 0 0, errV 35 (askedE V e52.1 e52.2)])] (fun _ => by kernel_rfl) ?_
          refine WL.storeM (c' := #[.int .i64 0, .int .i64 0]) hC1035 3 50 g859 0 (.agg #[.int .i64 0, .int .i64 0]) (by kernel_rfl) rfl (by kernel_rfl) (fun w1039 hF1041 hC1042 => ?_)
          have hvs1043 := vsAt_fr hvs1036 hF1041 (hC1035.apartM 0 3 rfl rfl)
          have ho1044 := own_fr ho1037 hF1041 (hC1035.apartM 1 3 rfl rfl)
          have hl1045 := logIn.fr hl1038 hF1041 (hC1035.apartM 2 3 rfl rfl)
          refine WL.runs 2 [(13, errV 35 (askedE V e52.1 e52.2)), (15, .slice none 0 0)] (fun _ => by kernel_rfl) ?_
          refine WL.done rfl ?_
          refine QX.then_normal (hK870 _ _ ?_)
          refine WC.seq (fun K1046 hK1047 => ?_)
          refine WC.region ?_
          refine WL.runs 1 [(72, errV 35 (askedE V e52.1 e52.2))] (fun _ => by kernel_rfl) ?_
          have hr1048 : ∀ w_, Sem.run Try.prog (do eqGuard .eql 27 (Operand.tmp 72) (Operand.const (.nilIface)) (errV 35 (askedE V e52.1 e52.2)) (.nilIface); binOp .eql 27 (errV 35 (askedE V e52.1 e52.2)) (.nilIface)) w_ = .ok (.bool (decide (askedE V e52.1 e52.2 = 0))) w_ := fun w_ => (err_eql _ (askedE V e52.1 e52.2) (decide (askedE V e52.1 e52.2 = 0)) (by rfl) _)
          refine WL.sem (do eqGuard .eql 27 (Operand.tmp 72) (Operand.const (.nilIface)) (errV 35 (askedE V e52.1 e52.2)) (.nilIface); binOp .eql 27 (errV 35 (askedE V e52.1 e52.2)) (.nilIface)) 73 (.bool (decide (askedE V e52.1 e52.2 = 0))) (by kernel_rfl) (hr1048 _) ?_
          refine WL.runs 1 [(74, .bool (decide (askedE V e52.1 e52.2 = 0)))] (fun _ => by kernel_rfl) ?_
          refine WL.know 74 (.bool (decide (askedE V e52.1 e52.2 = 0))) (.bool false) rfl (congrArg Value.bool (by simp [hE871])) ?_
          refine WL.runs 10 [(84, .bool false), (83, undef), (82, undef), (81, undef), (80, undef), (79, undef), (78, undef), (77, undef), (76, undef), (75, undef)] (fun _ => by kernel_rfl) ?_
          refine WL.done rfl ?_
          refine QX.then_normal (hK1047 _ _ ?_)
          refine WC.cond_false rfl ?_
          refine WC.skip ?_
          refine QX.then_normal (hK121 _ _ ?_)
          refine WC.seq (fun K1049 hK1050 => ?_)
          refine WC.seq (fun K1051 hK1052 => ?_)
          refine WC.drawC hC1042 [] (by kernel_rfl) (fun w1053 hF1054 hC1055 hS1056 => ?_)
          have hvs1057 := vsAt_fr hvs1043 hF1054 (by simp)
          have ho1058 := own_fr ho1044 hF1054 (by simp)
          have hl1059 := logIn.fr hl1045 hF1054 (by simp)
          refine WD.pure (NoPanic.then (NoPanic.then (NoPanic.block (NoPanic.then (NoPanic.then (NoPanic.block (NoPanic.then hN))))))) 0 85 (errV 35 (askedE V e52.1 e52.2)) (by kernel_rfl) (fun _ => by kernel_rfl) hS1056 ?_
          have hr1060 : ∀ w_, Sem.run Try.prog (do eqGuard .eql 27 (Operand.tmp 85) (Operand.const (.nilIface)) (errV 35 (askedE V e52.1 e52.2)) (.nilIface); binOp .eql 27 (errV 35 (askedE V e52.1 e52.2)) (.nilIface)) w_ = .ok (.bool (decide (askedE V e52.1 e52.2 = 0))) w_ := fun w_ => (err_eql _ (askedE V e52.1 e52.2) (decide (askedE V e52.1 e52.2 = 0)) (by rfl) _)
          refine WD.semP (NoPanic.then (NoPanic.then (NoPanic.block (NoPanic.then (NoPanic.then (NoPanic.block (NoPanic.then hN))))))) 1 (do eqGuard .eql 27 (Operand.tmp 85) (Operand.const (.nilIface)) (errV 35 (askedE V e52.1 e52.2)) (.nilIface); binOp .eql 27 (errV 35 (askedE V e52.1 e52.2)) (.nilIface)) 86 (.bool (decide (askedE V e52.1 e52.2 = 0))) (by kernel_rfl) (by kernel_rfl) (fun _ _ => hr1060 _) hS1056 ?_
          refine WD.pure (NoPanic.then (NoPanic.then (NoPanic.block (NoPanic.then (NoPanic.then (NoPanic.block (NoPanic.then hN))))))) 2 87 (.bool (decide (askedE V e52.1 e52.2 = 0))) (by kernel_rfl) (fun _ => by kernel_rfl) hS1056 ?_
          refine WD.know 87 (.bool (decide (askedE V e52.1 e52.2 = 0))) (.bool false) rfl (congrArg Value.bool (by simp [hE871])) ?_
          refine WD.pure (NoPanic.then (NoPanic.then (NoPanic.block (NoPanic.then (NoPanic.then (NoPanic.block (NoPanic.then hN))))))) 3 88 (undef) (by kernel_rfl) (fun _ => by kernel_rfl) hS1056 ?_
          refine WD.pure (NoPanic.then (NoPanic.then (NoPanic.block (NoPanic.then (NoPanic.then (NoPanic.block (NoPanic.then hN))))))) 4 89 (undef) (by kernel_rfl) (fun _ => by kernel_rfl) hS1056 ?_
          refine WD.pure (NoPanic.then (NoPanic.then (NoPanic.block (NoPanic.then (NoPanic.then (NoPanic.block (NoPanic.then hN))))))) 5 90 (undef) (by kernel_rfl) (fun _ => by kernel_rfl) hS1056 ?_
          refine WD.pure (NoPanic.then (NoPanic.then (NoPanic.block (NoPanic.then (NoPanic.then (NoPanic.block (NoPanic.then hN))))))) 6 91 (undef) (by kernel_rfl) (fun _ => by kernel_rfl) hS1056 ?_
          refine WD.pure (NoPanic.then (NoPanic.then (NoPanic.block (NoPanic.then (NoPanic.then (NoPanic.block (NoPanic.then hN))))))) 7 92 (undef) (by kernel_rfl) (fun _ => by kernel_rfl) hS1056 ?_
          refine WD.pure (NoPanic.then (NoPanic.then (NoPanic.block (NoPanic.then (NoPanic.then (NoPanic.block (NoPanic.then hN))))))) 8 93 (undef) (by kernel_rfl) (fun _ => by kernel_rfl) hS1056 ?_
          refine WD.pure (NoPanic.then (NoPanic.then (NoPanic.block (NoPanic.then (NoPanic.then (NoPanic.block (NoPanic.then hN))))))) 9 94 (undef) (by kernel_rfl) (fun _ => by kernel_rfl) hS1056 ?_
          refine WD.pure (NoPanic.then (NoPanic.then (NoPanic.block (NoPanic.then (NoPanic.then (NoPanic.block (NoPanic.then hN))))))) 10 95 (undef) (by kernel_rfl) (fun _ => by kernel_rfl) hS1056 ?_
          refine WD.pure (NoPanic.then (NoPanic.then (NoPanic.block (NoPanic.then (NoPanic.then (NoPanic.block (NoPanic.then hN))))))) 11 96 (undef) (by kernel_rfl) (fun _ => by kernel_rfl) hS1056 ?_
          refine WD.pure (NoPanic.then (NoPanic.then (NoPanic.block (NoPanic.then (NoPanic.then (NoPanic.block (NoPanic.then hN))))))) 12 97 (.bool false) (by kernel_rfl) (fun _ => by kernel_rfl) hS1056 ?_
          refine WD.pure (NoPanic.then (NoPanic.then (NoPanic.block (NoPanic.then (NoPanic.then (NoPanic.block (NoPanic.then hN))))))) 13 98 (.bool false) (by kernel_rfl) (fun _ => by kernel_rfl) hS1056 ?_
          refine WD.pure (NoPanic.then (NoPanic.then (NoPanic.block (NoPanic.then (NoPanic.then (NoPanic.block (NoPanic.then hN))))))) 14 99 (errV 35 (askedE V e52.1 e52.2)) (by kernel_rfl) (fun _ => by kernel_rfl) hS1056 ?_
          have hr1061 : ∀ w_, Sem.run Try.prog (do eqGuard .neq 27 (Operand.tmp 99) (Operand.const (.nilIface)) (errV 35 (askedE V e52.1 e52.2)) (.nilIface); binOp .neq 27 (errV 35 (askedE V e52.1 e52.2)) (.nilIface)) w_ = .ok (.bool (!(decide (askedE V e52.1 e52.2 = 0)))) w_ := fun w_ => (err_neq _ (askedE V e52.1 e52.2) (decide (askedE V e52.1 e52.2 = 0)) (by rfl) _)
          refine WD.semP (NoPanic.then (NoPanic.then (NoPanic.block (NoPanic.then (NoPanic.then (NoPanic.block (NoPanic.then hN))))))) 15 (do eqGuard .neq 27 (Operand.tmp 99) (Operand.const (.nilIface)) (errV 35 (askedE V e52.1 e52.2)) (.nilIface); binOp .neq 27 (errV 35 (askedE V e52.1 e52.2)) (.nilIface)) 100 (.bool (!(decide (askedE V e52.1 e52.2 = 0)))) (by kernel_rfl) (by kernel_rfl) (fun _ _ => hr1061 _) hS1056 ?_
          refine WD.pure (NoPanic.then (NoPanic.then (NoPanic.block (NoPanic.then (NoPanic.then (NoPanic.block (NoPanic.then hN))))))) 16 101 (.bool (!(decide (askedE V e52.1 e52.2 = 0)))) (by kernel_rfl) (fun _ => by kernel_rfl) hS1056 ?_
          refine WD.know 101 (.bool (!(decide (askedE V e52.1 e52.2 = 0)))) (.bool true) rfl (congrArg Value.bool (by simp [hE871])) ?_
          refine WD.pure (NoPanic.then (NoPanic.then (NoPanic.block (NoPanic.then (NoPanic.then (NoPanic.block (NoPanic.then hN))))))) 17 102 (.pointer (some ⟨p20, 0, none⟩)) (by kernel_rfl) (fun _ => by kernel_rfl) hS1056 ?_
          refine WD.load (NoPanic.then (NoPanic.then (NoPanic.block (NoPanic.then (NoPanic.then (NoPanic.block (NoPanic.then hN))))))) 19 50 (.pointer (some ⟨g75, 0, none⟩)) (.agg #[.int .i64 V.pn, .int .i64 V.pd]) 104 (by kernel_rfl) (by kernel_rfl) (fun _ hS_ => run_ld (Fr.has hS_ (hC1055.get 1 rfl) (by simp)) rfl) hS1056 ?_
          refine WD.call 18 (by kernel_rfl) rfl rfl rfl rfl rfl (by kernel_rfl) (PromVS FA p20 V sp19 N N 4194304 w1053 hvs1057) ?_
          rintro _ w1063 ⟨rfl, hF1062⟩
          have hS1065 := hS1056.trans hF1062 (by simp)
          refine ⟨_, rfl, hS1065, ?_⟩
          have hC1064 := hC1055.call hF1062
          have hvs1066 := vsAt_fr hvs1057 hF1062 (by simp)
          have ho1067 := own_fr ho1058 hF1062 (by simp)
          have hl1068 := logIn.fr hl1059 hF1062 (by simp)
          have hr1069 : ∀ w_, Sem.run Try.prog (do eqGuard .neq 50 (Operand.tmp 103) (Operand.tmp 104) (.agg #[.int .i64 V.pn, .int .i64 V.pd]) (.agg #[.int .i64 V.pn, .int .i64 V.pd]); binOp .neq 50 (.agg #[.int .i64 V.pn, .int .i64 V.pd]) (.agg #[.int .i64 V.pn, .int .i64 V.pd])) w_ = .ok (.bool (!(V.pn == V.pn && (V.pd == V.pd && true)))) w_ := fun w_ => (run_neq_S (by kernel_rfl))
          refine WD.semP (NoPanic.then (NoPanic.then (NoPanic.block (NoPanic.then (NoPanic.then (NoPanic.block (NoPanic.then hN))))))) 20 (do eqGuard .neq 50 (Operand.tmp 103) (Operand.tmp 104) (.agg #[.int .i64 V.pn, .int .i64 V.pd]) (.agg #[.int .i64 V.pn, .int .i64 V.pd]); binOp .neq 50 (.agg #[.int .i64 V.pn, .int .i64 V.pd]) (.agg #[.int .i64 V.pn, .int .i64 V.pd])) 105 (.bool (!(V.pn == V.pn && (V.pd == V.pd && true)))) (by kernel_rfl) (by kernel_rfl) (fun _ _ => hr1069 _) hS1065 ?_
          refine WD.pure (NoPanic.then (NoPanic.then (NoPanic.block (NoPanic.then (NoPanic.then (NoPanic.block (NoPanic.then hN))))))) 21 106 (.bool (!(V.pn == V.pn && (V.pd == V.pd && true)))) (by kernel_rfl) (fun _ => by kernel_rfl) hS1065 ?_
          refine WD.pure (NoPanic.then (NoPanic.then (NoPanic.block (NoPanic.then (NoPanic.then (NoPanic.block (NoPanic.then hN))))))) 22 107 (.bool (!(V.pn == V.pn && (V.pd == V.pd && true)))) (by kernel_rfl) (fun _ => by kernel_rfl) hS1065 ?_
          refine WD.done (by kernel_rfl) ?_
          refine QX.then_normal (hK1052 _ _ ?_)
          refine WC.know 107 (.bool (!(V.pn == V.pn && (V.pd == V.pd && true)))) (.bool false) rfl (congrArg Value.bool (by simp)) ?_
          refine WC.cond_false rfl ?_
          refine WC.skip ?_
          refine QX.then_normal (hK1050 _ _ ?_)
          refine WC.seq (fun K1070 hK1071 => ?_)
          refine WC.seq (fun K1072 hK1073 => ?_)
          refine WC.region ?_
          refine WL.runs 2 [(109, .iface 35 (.int .i64 8)), (108, errV 35 (askedE V e52.1 e52.2))] (fun _ => by kernel_rfl) ?_
          have hr1074 : ∀ w_, Sem.run Try.prog (do eqGuard .eql 27 (Operand.tmp 108) (Operand.tmp 109) (errV 35 (askedE V e52.1 e52.2)) (.iface 35 (.int .i64 8)); binOp .eql 27 (errV 35 (askedE V e52.1 e52.2)) (.iface 35 (.int .i64 8))) w_ = .ok (.bool (decide ((askedE V e52.1 e52.2) = (8 : Int)))) w_ := fun w_ => (err_eqlc _ _ (askedE V e52.1 e52.2) 8 (by decide) _)
          refine WL.sem (do eqGuard .eql 27 (Operand.tmp 108) (Operand.tmp 109) (errV 35 (askedE V e52.1 e52.2)) (.iface 35 (.int .i64 8)); binOp .eql 27 (errV 35 (askedE V e52.1 e52.2)) (.iface 35 (.int .i64 8))) 110 (.bool (decide ((askedE V e52.1 e52.2) = (8 : Int)))) (by kernel_rfl) (hr1074 _) ?_
          refine WL.runs 1 [(111, .bool (decide ((askedE V e52.1 e52.2) = (8 : Int))))] (fun _ => by kernel_rfl) ?_
          refine WL.test_at 111 (decide ((askedE V e52.1 e52.2) = (8 : Int))) rfl (fun t1075b => ?_) (fun t1075b => ?_)
          · -- (askedE V e52.1 e52.2) = (8 : Int): true
            have t1075 : (askedE V e52.1 e52.2) = (8 : Int) := of_decide_eq_true t1075b
            refine WL.load 50 (.pointer (some ⟨g58, 0, none⟩)) (.agg #[.int .i64 e52.1, .int .i64 e52.2]) 112 (by kernel_rfl) (run_ld (hC1064.get 0 rfl) rfl) ?_
            refine WL.load 50 (.pointer (some ⟨g75, 0, none⟩)) (.agg #[.int .i64 V.pn, .int .i64 V.pd]) 113 (by kernel_rfl) (run_ld (hC1064.get 1 rfl) rfl) ?_
            refine WL.call rfl rfl rfl rfl rfl (by kernel_rfl) (Less_ct e52.1 e52.2 V.pn V.pd w1063) ?_
            rintro _ w1077 ⟨rfl, hF1076⟩
            refine ⟨_, rfl, ?_⟩
            have hC1078 := hC1064.call hF1076
            have hvs1079 := vsAt_fr hvs1066 hF1076 (by simp)
            have ho1080 := own_fr ho1067 hF1076 (by simp)
            have hl1081 := logIn.fr hl1068 hF1076 (by simp)
            refine WL.runs 2 [(116, .bool (!(lessB e52.1 e52.2 V.pn V.pd))), (115, .bool (!(lessB e52.1 e52.2 V.pn V.pd)))] (fun _ => by kernel_rfl) ?_
            refine WL.done rfl ?_
            refine QX.then_normal (hK1073 _ _ ?_)
            refine WC.know 116 (.bool (!(lessB e52.1 e52.2 V.pn V.pd))) (.bool false) rfl (congrArg Value.bool (by rw [show lessB _ _ _ _ = true from asked_low (of_decide_eq_true t1075b)]; rfl)) ?_
            refine WC.cond_false rfl ?_
            refine WC.skip ?_
            refine QX.then_normal (hK1071 _ _ ?_)
            refine WC.seq (fun K1082 hK1083 => ?_)
            refine WC.region ?_
            refine WL.runs 1 [(118, .pointer (some ⟨p20, 0, none⟩))] (fun _ => by kernel_rfl) ?_
            refine WL.call rfl rfl rfl rfl rfl (by kernel_rfl) (AcceptedVS FA p20 V sp19 N N 4194304 w1077 hvs1079) ?_
            rintro _ w1094 ⟨A1084, c1085, L1086, R1087, rfl, hF1088, ho1089, hli1090, hvv1091, hRg1092, hgr1093⟩
            have hC1095 := callNN hC1078 hF1088 (own_ge ho1089) (own_lt ho1089) (fun x_ h_ => (hRg1092 x_ h_).1) (fun x_ h_ => (hRg1092 x_ h_).2) hgr1093
            refine ⟨_, rfl, ?_⟩
            have hvs1096 := vsAt_fr hvs1079 hF1088 (by simp)
            have ho1097 := own_fr ho1080 hF1088 (by simp)
            have hl1098 := logIn.fr hl1081 hF1088 (by simp)
            have ho1099 := own_base (b' := 0) ho1089 (fun _ _ => Nat.zero_le _)
            have hvvN_L1086 : vals L1086 = (V.log : List CmdV) := hvv1091
            have hll_L1086 : L1086.length = (V.log : List CmdV).length := by rw [← vals_len, hvvN_L1086]
            refine WL.runs 3 [(121, .slice A1084 L1086.length c1085), (120, .agg #[.int .i64 V.an, .int .i64 V.ad]), (117, .tuple #[.agg #[.int .i64 V.an, .int .i64 V.ad], .slice A1084 L1086.length c1085])] (fun _ => by kernel_rfl) ?_
            refine WL.newM hC1095 (fun b => .pointer (some ⟨b, 0, none⟩)) (.cells #[.int .i64 0, .int .i64 0] 50) 16 (fun _ => by kernel_rfl) (fun g1101 w1102 hb1105 hF1103 hC1104 => ?_)
            have hvs1106 := vsAt_fr hvs1096 hF1103 (by simp)
            have ho1107 := own_fr ho1097 hF1103 (by simp)
            have hl1108 := logIn.fr hl1098 hF1103 (by simp)
            have ho1109 := own_fr ho1099 hF1103 (by simp)
            have hl1110 := logIn.fr hli1090 hF1103 (by simp)
            refine WL.storeM (c' := #[.int .i64 V.an, .int .i64 V.ad]) hC1104 4 50 g1101 0 (.agg #[.int .i64 V.an, .int .i64 V.ad]) (by kernel_rfl) rfl (by kernel_rfl) (fun w1111 hF1113 hC1114 => ?_)
            have hvs1115 := vsAt_fr hvs1106 hF1113 (hC1104.apartM 0 4 rfl rfl)
            have ho1116 := own_fr ho1107 hF1113 (hC1104.apartM 1 4 rfl rfl)
            have hl1117 := logIn.fr hl1108 hF1113 (hC1104.apartM 2 4 rfl rfl)
            have ho1118 := own_fr ho1109 hF1113 (hC1104.apartM 3 4 rfl rfl)
            have hl1119 := logIn.fr hl1110 hF1113 (hC1104.apartM 4 4 rfl rfl)
            refine WL.runs 1 [(17, .slice A1084 L1086.length c1085)] (fun _ => by kernel_rfl) ?_
            refine WL.done rfl ?_
            refine QX.then_normal (hK1083 _ _ ?_)
            refine WC.seq (fun K1120 hK1121 => ?_)
            refine WC.seq (fun K1122 hK1123 => ?_)
            refine WC.region ?_
            refine WL.runs 5 [(126, .bool (decide ((i : Int) < (ks.length : Int)))), (125, .bool (decide ((i : Int) < (ks.length : Int)))), (124, .int .i64 (ks.length : Int)), (123, .slice B ks.length c2), (122, .int .i64 (i : Int))] (fun _ => by kernel_rfl) ?_
            refine WL.know 126 (.bool (decide ((i : Int) < (ks.length : Int)))) (.bool false) rfl (congrArg Value.bool (by exact t124b)) ?_
            refine WL.runs 27 [(153, .bool false), (152, undef), (151, undef), (150, undef), (149, undef), (148, undef), (147, undef), (146, undef), (145, undef), (144, undef), (143, undef), (142, undef), (141, undef), (140, undef), (139, undef), (138, undef), (137, undef), (136, .bool false), (135, .bool false), (134, undef), (133, undef), (132, .bool false), (131, .bool false), (130, undef), (129, undef), (128, undef), (127, undef)] (fun _ => by kernel_rfl) ?_
            refine WL.done rfl ?_
            refine QX.then_normal (hK1123 _ _ ?_)
            refine WC.cond_false rfl ?_
            refine WC.skip ?_
            refine QX.then_normal (hK1121 _ _ ?_)
            refine WC.seq (fun K1124 hK1125 => ?_)
            refine WC.drawC hC1114 [] (by kernel_rfl) (fun w1126 hF1127 hC1128 hS1129 => ?_)
            have hvs1130 := vsAt_fr hvs1115 hF1127 (by simp)
            have ho1131 := own_fr ho1116 hF1127 (by simp)
            have hl1132 := logIn.fr hl1117 hF1127 (by simp)
            have ho1133 := own_fr ho1118 hF1127 (by simp)
            have hl1134 := logIn.fr hl1119 hF1127 (by simp)
            refine WD.pure (NoPanic.then (NoPanic.block (NoPanic.then (NoPanic.then (NoPanic.block (NoPanic.then hN)))))) 0 154 (.pointer (some ⟨p20, 0, none⟩)) (by kernel_rfl) (fun _ => by kernel_rfl) hS1129 ?_
            refine WD.load (NoPanic.then (NoPanic.block (NoPanic.then (NoPanic.then (NoPanic.block (NoPanic.then hN)))))) 2 50 (.pointer (some ⟨g1101, 0, none⟩)) (.agg #[.int .i64 V.an, .int .i64 V.ad]) 156 (by kernel_rfl) (by kernel_rfl) (fun _ hS_ => run_ld (Fr.has hS_ (hC1128.get 4 rfl) (by simp)) rfl) hS1129 ?_
            refine WD.call 1 (by kernel_rfl) rfl rfl rfl rfl rfl (by kernel_rfl) (PromVS FA p20 V sp19 N N 4194304 w1126 hvs1130) ?_
            rintro _ w1136 ⟨rfl, hF1135⟩
            have hS1138 := hS1129.trans hF1135 (by simp)
            refine ⟨_, rfl, hS1138, ?_⟩
            have hC1137 := hC1128.call hF1135
            have hvs1139 := vsAt_fr hvs1130 hF1135 (by simp)
            have ho1140 := own_fr ho1131 hF1135 (by simp)
            have hl1141 := logIn.fr hl1132 hF1135 (by simp)
            have ho1142 := own_fr ho1133 hF1135 (by simp)
            have hl1143 := logIn.fr hl1134 hF1135 (by simp)
            refine WD.call 3 (by kernel_rfl) rfl rfl rfl rfl rfl (by kernel_rfl) (Less_ct V.pn V.pd V.an V.ad w1136) ?_
            rintro _ w1145 ⟨rfl, hF1144⟩
            have hS1147 := hS1138.trans hF1144 (by simp)
            refine ⟨_, rfl, hS1147, ?_⟩
            have hC1146 := hC1137.call hF1144
            have hvs1148 := vsAt_fr hvs1139 hF1144 (by simp)
            have ho1149 := own_fr ho1140 hF1144 (by simp)
            have hl1150 := logIn.fr hl1141 hF1144 (by simp)
            have ho1151 := own_fr ho1142 hF1144 (by simp)
            have hl1152 := logIn.fr hl1143 hF1144 (by simp)
            refine WD.done (by kernel_rfl) ?_
            refine QX.then_normal (hK1125 _ _ ?_)
            refine WC.know 157 (.bool (lessB V.pn V.pd V.an V.ad)) (.bool false) rfl (congrArg Value.bool (by exact hless)) ?_
            refine WC.cond_false rfl ?_
            refine WC.skip ?_
            refine QX.block_normal ?_
            refine QX.then_normal (hK49 _ _ ?_)
            refine WC.region ?_
            refine WL.runs 1 [(158, .int .i64 (IntKind.i64.wrap ((i : Int) + 1)))] (fun _ => by kernel_rfl) ?_
            refine WL.recast (show (.int .i64 (IntKind.i64.wrap ((i : Int) + 1)) : Value) = .int .i64 ((i : Int) + 1) from by rw [wrap_in_i64 ((i : Int) + 1) (by omega) (by omega)]) ?_
            refine WL.runs 1 [(35, .int .i64 ((i : Int) + 1))] (fun _ => by kernel_rfl) ?_
            refine WL.done rfl ?_
            refine QX.then_normal ?_
            have hC1153 := hC1146.pick [] [0] rfl rfl
            refine fun a_ ha_ => hK38 _ _ _ ?_ ⟨i + 1, k, FA, V, N, rfl, rfl, hC1153, hvs1148, by omega, by omega, by omega, hless, by omega⟩ a_ (ha_.weaken (sub_of ⟨rfl, rfl, rfl, rfl, rfl, rfl, rfl, rfl, trivial⟩))
            omega
          · -- (askedE V e52.1 e52.2) = (8 : Int): false
            have t1075 : ¬ ((askedE V e52.1 e52.2) = (8 : Int)) := of_decide_eq_false t1075b
            refine WL.runs 5 [(116, .bool false), (115, undef), (114, undef), (113, undef), (112, undef)] (fun _ => by kernel_rfl) ?_
            refine WL.done rfl ?_
            refine QX.then_normal (hK1073 _ _ ?_)
            refine WC.cond_false rfl ?_
            refine WC.skip ?_
            refine QX.then_normal (hK1071 _ _ ?_)
            refine WC.seq (fun K1154 hK1155 => ?_)
            refine WC.region ?_
            refine WL.runs 1 [(118, .pointer (some ⟨p20, 0, none⟩))] (fun _ => by kernel_rfl) ?_
            refine WL.call rfl rfl rfl rfl rfl (by kernel_rfl) (AcceptedVS FA p20 V sp19 N N 4194304 w1063 hvs1066) ?_
            rintro _ w1166 ⟨A1156, c1157, L1158, R1159, rfl, hF1160, ho1161, hli1162, hvv1163, hRg1164, hgr1165⟩
            have hC1167 := callNN hC1064 hF1160 (own_ge ho1161) (own_lt ho1161) (fun x_ h_ => (hRg1164 x_ h_).1) (fun x_ h_ => (hRg1164 x_ h_).2) hgr1165
            refine ⟨_, rfl, ?_⟩
            have hvs1168 := vsAt_fr hvs1066 hF1160 (by simp)
            have ho1169 := own_fr ho1067 hF1160 (by simp)
            have hl1170 := logIn.fr hl1068 hF1160 (by simp)
            have ho1171 := own_base (b' := 0) ho1161 (fun _ _ => Nat.zero_le _)
            have hvvN_L1158 : vals L1158 = (V.log : List CmdV) := hvv1163
            have hll_L1158 : L1158.length = (V.log : List CmdV).length := by rw [← vals_len, hvvN_L1158]
            refine WL.runs 3 [(121, .slice A1156 L1158.length c1157), (120, .agg #[.int .i64 V.an, .int .i64 V.ad]), (117, .tuple #[.agg #[.int .i64 V.an, .int .i64 V.ad], .slice A1156 L1158.length c1157])] (fun _ => by kernel_rfl) ?_
            refine WL.newM hC1167 (fun b => .pointer (some ⟨b, 0, none⟩)) (.cells #[.int .i64 0, .int .i64 0] 50) 16 (fun _ => by kernel_rfl) (fun g1173 w1174 hb1177 hF1175 hC1176 => ?_)
            have hvs1178 := vsAt_fr hvs1168 hF1175 (by simp)
            have ho1179 := own_fr ho1169 hF1175 (by simp)
            have hl1180 := logIn.fr hl1170 hF1175 (by simp)
            have ho1181 := own_fr ho1171 hF1175 (by simp)
            have hl1182 := logIn.fr hli1162 hF1175 (by simp)
            refine WL.storeM (c' := #[.int .i64 V.an, .int .i64 V.ad]) hC1176 4 50 g1173 0 (.agg #[.int .i64 V.an, .int .i64 V.ad]) (by kernel_rfl) rfl (by kernel_rfl) (fun w1183 hF1185 hC1186 => ?_)
            have hvs1187 := vsAt_fr hvs1178 hF1185 (hC1176.apartM 0 4 rfl rfl)
            have ho1188 := own_fr ho1179 hF1185 (hC1176.apartM 1 4 rfl rfl)
            have hl1189 := logIn.fr hl1180 hF1185 (hC1176.apartM 2 4 rfl rfl)
            have ho1190 := own_fr ho1181 hF1185 (hC1176.apartM 3 4 rfl rfl)
            have hl1191 := logIn.fr hl1182 hF1185 (hC1176.apartM 4 4 rfl rfl)
            refine WL.runs 1 [(17, .slice A1156 L1158.length c1157)] (fun _ => by kernel_rfl) ?_
            refine WL.done rfl ?_
            refine QX.then_normal (hK1155 _ _ ?_)
            refine WC.seq (fun K1192 hK1193 => ?_)
            refine WC.seq (fun K1194 hK1195 => ?_)
            refine WC.region ?_
            refine WL.runs 5 [(126, .bool (decide ((i : Int) < (ks.length : Int)))), (125, .bool (decide ((i : Int) < (ks.length : Int)))), (124, .int .i64 (ks.length : Int)), (123, .slice B ks.length c2), (122, .int .i64 (i : Int))] (fun _ => by kernel_rfl) ?_
            refine WL.know 126 (.bool (decide ((i : Int) < (ks.length : Int)))) (.bool false) rfl (congrArg Value.bool (by exact t124b)) ?_
            refine WL.runs 27 [(153, .bool false), (152, undef), (151, undef), (150, undef), (149, undef), (148, undef), (147, undef), (146, undef), (145, undef), (144, undef), (143, undef), (142, undef), (141, undef), (140, undef), (139, undef), (138, undef), (137, undef), (136, .bool false), (135, .bool false), (134, undef), (133, undef), (132, .bool false), (131, .bool false), (130, undef), (129, undef), (128, undef), (127, undef)] (fun _ => by kernel_rfl) ?_
            refine WL.done rfl ?_
            refine QX.then_normal (hK1195 _ _ ?_)
            refine WC.cond_false rfl ?_
            refine WC.skip ?_
            refine QX.then_normal (hK1193 _ _ ?_)
            refine WC.seq (fun K1196 hK1197 => ?_)
            refine WC.drawC hC1186 [] (by kernel_rfl) (fun w1198 hF1199 hC1200 hS1201 => ?_)
            have hvs1202 := vsAt_fr hvs1187 hF1199 (by simp)
            have ho1203 := own_fr ho1188 hF1199 (by simp)
            have hl1204 := logIn.fr hl1189 hF1199 (by simp)
            have ho1205 := own_fr ho1190 hF1199 (by simp)
            have hl1206 := logIn.fr hl1191 hF1199 (by simp)
            refine WD.pure (NoPanic.then (NoPanic.block (NoPanic.then (NoPanic.then (NoPanic.block (NoPanic.then hN)))))) 0 154 (.pointer (some ⟨p20, 0, none⟩)) (by kernel_rfl) (fun _ => by kernel_rfl) hS1201 ?_
            refine WD.load (NoPanic.then (NoPanic.block (NoPanic.then (NoPanic.then (NoPanic.block (NoPanic.then hN)))))) 2 50 (.pointer (some ⟨g1173, 0, none⟩)) (.agg #[.int .i64 V.an, .int .i64 V.ad]) 156 (by kernel_rfl) (by kernel_rfl) (fun _ hS_ => run_ld (Fr.has hS_ (hC1200.get 4 rfl) (by simp)) rfl) hS1201 ?_
            refine WD.call 1 (by kernel_rfl) rfl rfl rfl rfl rfl (by kernel_rfl) (PromVS FA p20 V sp19 N N 4194304 w1198 hvs1202) ?_
            rintro _ w1208 ⟨rfl, hF1207⟩
            have hS1210 := hS1201.trans hF1207 (by simp)
            refine ⟨_, rfl, hS1210, ?_⟩
            have hC1209 := hC1200.call hF1207
            have hvs1211 := vsAt_fr hvs1202 hF1207 (by simp)
            have ho1212 := own_fr ho1203 hF1207 (by simp)
            have hl1213 := logIn.fr hl1204 hF1207 (by simp)
            have ho1214 := own_fr ho1205 hF1207 (by simp)
            have hl1215 := logIn.fr hl1206 hF1207 (by simp)
            refine WD.call 3 (by kernel_rfl) rfl rfl rfl rfl rfl (by kernel_rfl) (Less_ct V.pn V.pd V.an V.ad w1208) ?_
            rintro _ w1217 ⟨rfl, hF1216⟩
            have hS1219 := hS1210.trans hF1216 (by simp)
            refine ⟨_, rfl, hS1219, ?_⟩
            have hC1218 := hC1209.call hF1216
            have hvs1220 := vsAt_fr hvs1211 hF1216 (by simp)
            have ho1221 := own_fr ho1212 hF1216 (by simp)
            have hl1222 := logIn.fr hl1213 hF1216 (by simp)
            have ho1223 := own_fr ho1214 hF1216 (by simp)
            have hl1224 := logIn.fr hl1215 hF1216 (by simp)
            refine WD.done (by kernel_rfl) ?_
            refine QX.then_normal (hK1197 _ _ ?_)
            refine WC.know 157 (.bool (lessB V.pn V.pd V.an V.ad)) (.bool false) rfl (congrArg Value.bool (by exact hless)) ?_
            refine WC.cond_false rfl ?_
            refine WC.skip ?_
            refine QX.block_normal ?_
            refine QX.then_normal (hK49 _ _ ?_)
            refine WC.region ?_
            refine WL.runs 1 [(158, .int .i64 (IntKind.i64.wrap ((i : Int) + 1)))] (fun _ => by kernel_rfl) ?_
            refine WL.recast (show (.int .i64 (IntKind.i64.wrap ((i : Int) + 1)) : Value) = .int .i64 ((i : Int) + 1) from by rw [wrap_in_i64 ((i : Int) + 1) (by omega) (by omega)]) ?_
            refine WL.runs 1 [(35, .int .i64 ((i : Int) + 1))] (fun _ => by kernel_rfl) ?_
            refine WL.done rfl ?_
            refine QX.then_normal ?_
            have hC1225 := hC1218.pick [] [0] rfl rfl
            refine fun a_ ha_ => hK38 _ _ _ ?_ ⟨i + 1, k, FA, V, N, rfl, rfl, hC1225, hvs1220, by omega, by omega, by omega, hless, by omega⟩ a_ (ha_.weaken (sub_of ⟨rfl, rfl, rfl, rfl, rfl, rfl, rfl, rfl, trivial⟩))
            omega
    · -- (i : Int) < (bs.length : Int): false
      have t47 : (bs.length : Int) ≤ (i : Int) := by have q_ := of_decide_eq_false t47b; omega
      refine WC.cond_false rfl ?_
      refine WC.exit ?_
      refine QX.then_exit ?_
      refine QX.then_exit ?_
      refine QX.block_hit ?_
      refine QX.then_normal (hK34 _ _ ?_)
      refine WC.seq (fun K1226 hK1227 => ?_)
      refine WC.region ?_
      refine WL.runs 1 [(4, .bool true)] (fun _ => by kernel_rfl) ?_
      refine WL.done rfl ?_
      refine QX.then_normal (hK1227 _ _ ?_)
      refine WC.ret ?_
      refine (hret _ _ _ rfl ?_).1
      clear hN hret hret' hK1227 hK46 hK44 hK36 hK34 hK32 hK30 hK28 hK18 hK13 hK11 hK6 hK4 hK2
      exact ⟨rfl, hC42.fr⟩

end Go.Proofs.Ytjacpjdikhlcoaa
