/- Contracts of functions of the program, each proved by a walk through its code; conditions stand in the statements. -/
import Derived.Test.YtjacpjdikhlcoaaVtJ14
namespace Go.Proofs.Ytjacpjdikhlcoaa
set_option linter.unusedSimpArgs false
set_option linter.unusedVariables false
set_option linter.unusedSectionVars false
open Go Go.RowKit Go.Tw
set_option linter.unusedVariables false
set_option maxRecDepth 20000
theorem keep0_yes (p sp : Nat) (F : List Nat) (N Y : Ct) (size pn pd an ad nd rn rd ra rb : Int) (va : Option Addr) (vn vc : Nat) (la : Option Addr) (ln lc : Nat) (w : World) (hp : w.heap[p]? = some (.cells #[.int .i64 pn, .int .i64 pd, .int .i64 an, .int .i64 ad, .slice va vn vc, .pointer (some ⟨sp, 0, none⟩), .int .i64 nd] 112 (0, 0))) (ht : stAt w F sp N Y size) (hpF : p ∉ F) (h1 : putE N size kP 16 = 0) : Calls Try.prog 53 #[.pointer (some ⟨p, 0, none⟩), .agg #[.int .i64 rn, .int .i64 rd, .int .i64 ra, .int .i64 rb, .slice la ln lc], .bool false] w fun e w' => ∃ F2, e = .returned .nilIface ∧ Fr w w' (p :: F) ∧ stAt w' F2 sp (putL N kP (bytesN [rn, rd])) (putL N kP (bytesN [rn, rd])) size ∧ (∀ x ∈ F2, x ∈ F ∨ w.heap.size ≤ x) ∧ p ∉ F2 ∧ w'.heap[p]? = some (.cells #[.int .i64 rn, .int .i64 rd, .int .i64 ra, .int .i64 rb, .slice la ln lc, .pointer (some ⟨sp, 0, none⟩), .int .i64 nd] 112 (0, 0)) := by
  refine (keep0_ct p sp F N Y size pn pd an ad nd rn rd ra rb va vn vc la ln lc w hp ht hpF).mono ?_
  rintro e w' ⟨F2, rfl, h2, h3, h4, h5, h6⟩
  have hs : putS N size kP (bytesN [rn, rd]) = putL N kP (bytesN [rn, rd]) := by unfold putS; rw [bytes2_len, h1, if_pos rfl]
  rw [h1, if_pos rfl, hs] at h3
  rw [h1, if_pos rfl] at h6
  exact ⟨F2, by rw [h1]; rfl, h2, h3, h4, h5, h6⟩
theorem asked_ct (FV : List Nat) (p : Nat) (V : Vo) (sp : Nat) (n d : Int) (w : World) (hv : voAt w FV p V sp) (hd : isI64 d) : Calls Try.prog 52 #[.pointer (some ⟨p, 0, none⟩), .agg #[.int .i64 n, .int .i64 d]] w fun e w' => e = .returned (errV 35 (askedE V n d)) ∧ Fr w w' [] := by
 refine enterD (n := 23) Try.func52 rfl rfl (Nat.le_of_ble_eq_true rfl) ?_
 intro Q0 hN hret hret'
 have hv0 := hv
 obtain ⟨va, vc, vL, vR, hp_, hrd_, hin_, hvv_, hvl_, rfl, hnp_, hlt_, hw1_, hw2_, hw3_, hw4_, hw5_⟩ := hv
 have hC := Cx.startMs w [(p, .cells #[.int .i64 V.pn, .int .i64 V.pd, .int .i64 V.an, .int .i64 V.ad, .slice va vL.length vc, .pointer (some ⟨sp, 0, none⟩), .int .i64 V.node] 112)] (by simp) (by simp [hp_])
 refine WCs (fun K1 hK2 => ?_)
 refine WCg ?_
 refine WL.newM hC (fun b => .pointer (some ⟨b, 0, none⟩)) (.cells #[.int .i64 n, .int .i64 d] 50) 3 (fun _ => by kernel_rfl) (fun g3 w4 hb7 hF5 hC6 => ?_)
 have hf8 := (Fr.refl w []).trans hF5 (by simp)
 refine WLr 1 [(4, .nilIface)] (fun _ => by kernel_rfl) (WLd rfl (QXn (hK2 _ _ ?_)))
 refine WCs (fun K9 hK10 => ?_)
 refine WC.block ?_
 refine WCs (fun K11 hK12 => ?_)
 refine WCg (WLr 3 [(8, .bool false), (7, .bool false), (6, .pointer (some ⟨p, 0, none⟩))] (fun _ => by kernel_rfl) ?_)
 refine WL.load 50 (.pointer (some ⟨g3, 0, none⟩)) (.agg #[.int .i64 n, .int .i64 d]) 9 (by kernel_rfl) (run_ld (hC6.get 1 rfl) rfl) ?_
 refine WLc rfl rfl rfl rfl rfl (by kernel_rfl) (goodBallot_ct n d w4 hd) ?_
 rintro _ w14 ⟨rfl, hF13⟩
 refine ⟨_, rfl, ?_⟩
 have hC15 := hC6.call hF13
 have hf16 := hf8.trans hF13 (by simp)
 refine WLr 3 [(5, .bool (!(goodBal n d))), (12, .bool (!(goodBal n d))), (11, .bool (!(goodBal n d)))] (fun _ => by kernel_rfl) (WLd rfl (QXn (hK12 _ _ ?_)))
 refine WCa 5 (!(goodBal n d)) rfl (fun t17b => ?_) (fun t17b => ?_)
 ·
  have t17 : (goodBal n d) = false := by first | (simpa only [Bool.not_eq_true', Bool.not_eq_false'] using t17b) | simpa using t17b
  refine WCt rfl ?_
  refine WCs (fun K18 hK19 => ?_)
  refine WCg (WLr 2 [(4, .iface 35 (.int .i64 9)), (13, .iface 35 (.int .i64 9))] (fun _ => by kernel_rfl) (WLd rfl (QXn (hK19 _ _ ?_))))
  refine WC.ret ?_
  refine QXk ?_
  refine QXr ?_
  refine (hret _ _ _ rfl ?_).1
  clear hN hret hret' hK19 hK12 hK10 hK2
  have g_ : goodBal n d = false := (by simpa using t17b)
  unfold askedE
  rw [if_pos g_]
  exact ⟨rfl, hf16⟩
 ·
  have t17 : (goodBal n d) = true := by first | (simpa only [Bool.not_eq_true', Bool.not_eq_false'] using t17b) | simpa using t17b
  refine WCf rfl ?_
  refine WCs (fun K20 hK21 => ?_)
  refine WC.drawC hC15 [] (by kernel_rfl) (fun w22 hF23 hC24 hS25 => ?_)
  have hf26 := hf16.trans hF23 (by simp)
  refine WDp (NPt (NPb (NPt hN))) 1 16 (.pointer (some ⟨p, 0, none⟩)) (by kernel_rfl) (fun _ => by kernel_rfl) hS25 ?_
  refine WDp (NPt (NPb (NPt hN))) 2 17 (.pointer (some ⟨p, 0, none⟩)) (by kernel_rfl) (fun _ => by kernel_rfl) hS25 ?_
  refine WDp (NPt (NPb (NPt hN))) 3 18 (.pointer (some ⟨p, 0, none⟩)) (by kernel_rfl) (fun _ => by kernel_rfl) hS25 ?_
  refine WDp (NPt (NPb (NPt hN))) 4 19 (.pointer (some ⟨p, 0, none⟩)) (by kernel_rfl) (fun _ => by kernel_rfl) hS25 ?_
  refine WDl (NPt (NPb (NPt hN))) 0 50 (.pointer (some ⟨g3, 0, none⟩)) (.agg #[.int .i64 n, .int .i64 d]) 15 (by kernel_rfl) (by kernel_rfl) (fun _ hS_ => run_ld (Fr.has hS_ (hC24.get 1 rfl) (by simp)) rfl) hS25 ?_
  refine WDl (NPt (NPb (NPt hN))) 5 50 (.pointer (some ⟨p, 0, none⟩)) (.agg #[.int .i64 V.pn, .int .i64 V.pd]) 20 (by kernel_rfl) (by kernel_rfl) (fun _ hS_ => run_ld (Fr.has hS_ (hC24.get 0 rfl) (by simp)) rfl) hS25 ?_
  refine WD.call 6 (by kernel_rfl) rfl rfl rfl rfl rfl (by kernel_rfl) (Less_ct n d V.pn V.pd w22) ?_
  rintro _ w28 ⟨rfl, hF27⟩
  have hS30 := hS25.trans hF27 (by simp)
  refine ⟨_, rfl, hS30, ?_⟩
  have hC29 := hC24.call hF27
  have hf31 := hf26.trans hF27 (by simp)
  refine WDp (NPt (NPb (NPt hN))) 7 14 (.bool (lessB n d V.pn V.pd)) (by kernel_rfl) (fun _ => by kernel_rfl) hS30 ?_
  refine WD.done (by kernel_rfl) ?_
  refine QXn (hK21 _ _ ?_)
  refine WCa 14 (lessB n d V.pn V.pd) rfl (fun t32b => ?_) (fun t32b => ?_)
  ·
   refine WCt rfl ?_
   refine WCs (fun K33 hK34 => ?_)
   refine WCg (WLr 2 [(4, .iface 35 (.int .i64 8)), (22, .iface 35 (.int .i64 8))] (fun _ => by kernel_rfl) (WLd rfl (QXn (hK34 _ _ ?_))))
   refine WC.ret ?_
   refine QXk ?_
   refine QXr ?_
   refine (hret _ _ _ rfl ?_).1
   clear hN hret hret' hK34 hK21 hK12 hK10 hK2
   have g_ : goodBal n d = true := (by simpa using t17b)
   have l_ : lessB n d V.pn V.pd = true := t32b
   unfold askedE
   rw [if_neg (by rw [g_]; decide), l_]
   exact ⟨rfl, hf31⟩
  ·
   refine WCf rfl (WC.skip ?_)
   refine QXb ?_
   refine QXn (hK10 _ _ ?_)
   refine WCs (fun K35 hK36 => ?_)
   refine WCg (WLr 1 [(4, .nilIface)] (fun _ => by kernel_rfl) (WLd rfl (QXn (hK36 _ _ ?_))))
   refine WC.ret ?_
   refine (hret _ _ _ rfl ?_).1
   clear hN hret hret' hK36 hK21 hK12 hK10 hK2
   have g_ : goodBal n d = true := (by simpa using t17b)
   have l_ : lessB n d V.pn V.pd = false := t32b
   unfold askedE
   rw [if_neg (by rw [g_]; decide), l_]
   exact ⟨rfl, hf31⟩

theorem Promised_ct (FV : List Nat) (p : Nat) (V : Vo) (sp : Nat)  (w : World) (hv : voAt w FV p V sp) : Calls Try.prog 20 #[.pointer (some ⟨p, 0, none⟩)] w fun e w' => e = .returned (.agg #[.int .i64 V.pn, .int .i64 V.pd]) ∧ Fr w w' [] := by
 refine enterD (n := 11) Try.func20 rfl rfl (Nat.le_of_ble_eq_true rfl) ?_
 intro Q0 hN hret hret'
 have hv0 := hv
 obtain ⟨va, vc, vL, vR, hp_, hrd_, hin_, hvv_, hvl_, rfl, hnp_, hlt_, hw1_, hw2_, hw3_, hw4_, hw5_⟩ := hv
 have hC := Cx.startMs w [(p, .cells #[.int .i64 V.pn, .int .i64 V.pd, .int .i64 V.an, .int .i64 V.ad, .slice va vL.length vc, .pointer (some ⟨sp, 0, none⟩), .int .i64 V.node] 112)] (by simp) (by simp [hp_])
 refine WCs (fun K1 hK2 => ?_)
 refine WCg ?_
 refine WL.newM hC (fun b => .pointer (some ⟨b, 0, none⟩)) (.cells #[.int .i64 0, .int .i64 0] 50) 2 (fun _ => by kernel_rfl) (fun g3 w4 hb7 hF5 hC6 => ?_)
 have hf8 := (Fr.refl w []).trans hF5 (by simp)
 refine WLd rfl (QXn (hK2 _ _ ?_))
 refine WCs (fun K9 hK10 => ?_)
 refine WCs (fun K11 hK12 => ?_)
 refine WCg (WLr 2 [(4, .bool false), (3, .pointer (some ⟨p, 0, none⟩))] (fun _ => by kernel_rfl) (WLd rfl (QXn (hK12 _ _ ?_))))
 refine WCf rfl (WC.skip (QXn (hK10 _ _ ?_)))
 refine WCs (fun K13 hK14 => ?_)
 refine WCg (WLr 4 [(9, .pointer (some ⟨p, 0, none⟩)), (8, .pointer (some ⟨p, 0, none⟩)), (7, .pointer (some ⟨p, 0, none⟩)), (6, .pointer (some ⟨p, 0, none⟩))] (fun _ => by kernel_rfl) ?_)
 refine WL.load 50 (.pointer (some ⟨p, 0, none⟩)) (.agg #[.int .i64 V.pn, .int .i64 V.pd]) 10 (by kernel_rfl) (run_ld (hC6.get 0 rfl) rfl) ?_
 refine WLs (c' := #[.int .i64 V.pn, .int .i64 V.pd]) hC6 1 50 g3 0 (.agg #[.int .i64 V.pn, .int .i64 V.pd]) (by kernel_rfl) rfl (by kernel_rfl) (fun w15 hF17 hC18 => ?_)
 refine WLd rfl (QXn (hK14 _ _ ?_))
 refine WC.ret ?_
 refine (hret' _ _ (.agg #[.int .i64 V.pn, .int .i64 V.pd]) (fun a ha => ?_) ?_).1
 ·
  exact res_run ha ((ResR.cell rfl (run_ld (hC18.get 1 rfl) rfl) ResR.nil)) rfl
 exact ⟨rfl, (hC18.fr.shrink (by intro x_ hx_; simp at hx_; subst hx_; exact (hC18.get 0 rfl).trans hp_.symm))⟩

theorem clone_n (A : Option Addr) (n c : Nat) (L : List Cmd) (w : World) (hr : Rd w 12 cellsC A L) (hn : L.length = n) (hL : ∀ m ∈ L, cmdAt w m) (hl : n ≤ 1099511627776) : Calls Try.prog 50 #[.slice A n c] w fun e w' => ∃ (A2 : Option Addr) (c2 : Nat) (L2 : List Cmd) (R2 : List Nat), e = .returned (.slice A2 L2.length c2) ∧ Fr w w' [] ∧ w'.ownsRow w.heap.size 61 12 (.slice A2 L2.length c2) L2.length (L2.flatMap cellsC) ∧ logIn w' R2 L2 ∧ vals L2 = vals L ∧ (∀ x ∈ R2, w.heap.size ≤ x ∧ x < w'.heap.size) ∧ (∀ x ∈ blk (.slice A2 L2.length c2), x ∉ R2) := by subst hn; exact clone_ct A c L w hr hL hl
theorem callNN {w0 w w' : World} {F0 : List Nat} {M : List (Nat × Obj)} {Fs : List (List Nat)} (h : Cx w0 F0 w M Fs) (hf : Fr w w' []) {G R : List Nat} (hg : ∀ x ∈ G, w.heap.size ≤ x) (hb : ∀ x ∈ G, x < w'.heap.size) (hr : ∀ x ∈ R, w.heap.size ≤ x) (hrb : ∀ x ∈ R, x < w'.heap.size) (hd : ∀ x ∈ G, x ∉ R) : Cx w0 F0 w' M (Fs ++ [G, R]) := by
  have h1 := h.callN hf hg hb
  refine ⟨h1.fr, h1.has, h1.nodup, ?_, ?_, ?_, h1.ownM, ?_⟩
  · rw [List.pairwise_append]
    refine ⟨h.sep, by simpa using hd, fun A hA B hB x hx hxB => ?_⟩
    have hlt := h.bound A hA x hx
    simp only [List.mem_cons, List.not_mem_nil, or_false] at hB
    rcases hB with rfl | rfl
    · have := hg x hxB; omega
    · have := hr x hxB; omega
  · intro A hA p hp hx
    rcases List.mem_append.1 hA with hA | hA
    · exact h.apart A hA p hp hx
    · simp only [List.mem_cons, List.not_mem_nil, or_false] at hA
      have hlt := h.lt hp
      rcases hA with rfl | rfl
      · have := hg _ hx; omega
      · have := hr _ hx; omega
  · intro A hA x hx
    rcases List.mem_append.1 hA with hA | hA
    · exact Nat.lt_of_lt_of_le (h.bound A hA x hx) hf.size
    · simp only [List.mem_cons, List.not_mem_nil, or_false] at hA
      rcases hA with rfl | rfl
      · exact hb x hx
      · exact hrb x hx
  · intro A hA x hx
    rcases List.mem_append.1 hA with hA | hA
    · exact h.ownF A hA x hx
    · simp only [List.mem_cons, List.not_mem_nil, or_false] at hA
      rcases hA with rfl | rfl
      · exact .inr (Nat.le_trans h.fr.size (hg x hx))
      · exact .inr (Nat.le_trans h.fr.size (hr x hx))
theorem Accepted_ct (FV : List Nat) (p : Nat) (V : Vo) (sp : Nat)  (w : World) (hv : voAt w FV p V sp) : Calls Try.prog 21 #[.pointer (some ⟨p, 0, none⟩)] w fun e w' => ∃ (A2 : Option Addr) (c2 : Nat) (L2 : List Cmd) (R2 : List Nat), e = .returned (.tuple #[.agg #[.int .i64 V.an, .int .i64 V.ad], .slice A2 L2.length c2]) ∧ Fr w w' [] ∧ w'.ownsRow w.heap.size 61 12 (.slice A2 L2.length c2) L2.length (L2.flatMap cellsC) ∧ logIn w' R2 L2 ∧ vals L2 = V.log ∧ (∀ x ∈ R2, w.heap.size ≤ x ∧ x < w'.heap.size) ∧ (∀ x ∈ blk (.slice A2 L2.length c2), x ∉ R2) := by
 refine enterD (n := 18) Try.func21 rfl rfl (Nat.le_of_ble_eq_true rfl) ?_
 intro Q0 hN hret hret'
 have hv0 := hv
 obtain ⟨va, vc, vL, vR, hp_, hrd_, hin_, hvv_, hvl_, rfl, hnp_, hlt_, hw1_, hw2_, hw3_, hw4_, hw5_⟩ := hv
 have hC := Cx.startMs w [(p, .cells #[.int .i64 V.pn, .int .i64 V.pd, .int .i64 V.an, .int .i64 V.ad, .slice va vL.length vc, .pointer (some ⟨sp, 0, none⟩), .int .i64 V.node] 112)] (by simp) (by simp [hp_])
 refine WCs (fun K1 hK2 => ?_)
 refine WCg ?_
 refine WL.newM hC (fun b => .pointer (some ⟨b, 0, none⟩)) (.cells #[.int .i64 0, .int .i64 0] 50) 2 (fun _ => by kernel_rfl) (fun g3 w4 hb7 hF5 hC6 => ?_)
 have hf8 := (Fr.refl w []).trans hF5 (by simp)
 refine WLr 1 [(3, .slice none 0 0)] (fun _ => by kernel_rfl) (WLd rfl (QXn (hK2 _ _ ?_)))
 refine WCs (fun K9 hK10 => ?_)
 refine WCs (fun K11 hK12 => ?_)
 refine WCg (WLr 2 [(5, .bool false), (4, .pointer (some ⟨p, 0, none⟩))] (fun _ => by kernel_rfl) (WLd rfl (QXn (hK12 _ _ ?_))))
 refine WCf rfl (WC.skip (QXn (hK10 _ _ ?_)))
 refine WCs (fun K13 hK14 => ?_)
 refine WC.drawC hC6 [g3] (by kernel_rfl) (fun w15 hF16 hC17 hS18 => ?_)
 have hf19 := hf8.trans hF16 (by simp)
 refine WDp (NPt hN) 0 7 (.pointer (some ⟨p, 0, none⟩)) (by kernel_rfl) (fun _ => by kernel_rfl) hS18 ?_
 refine WDp (NPt hN) 1 8 (.pointer (some ⟨p, 0, none⟩)) (by kernel_rfl) (fun _ => by kernel_rfl) hS18 ?_
 refine WDp (NPt hN) 2 9 (.pointer (some ⟨p, 0, none⟩)) (by kernel_rfl) (fun _ => by kernel_rfl) hS18 ?_
 refine WDp (NPt hN) 3 10 (.pointer (some ⟨p, 2, none⟩)) (by kernel_rfl) (fun _ => by kernel_rfl) hS18 ?_
 refine WDp (NPt hN) 5 12 (.pointer (some ⟨p, 0, none⟩)) (by kernel_rfl) (fun _ => by kernel_rfl) hS18 ?_
 refine WDp (NPt hN) 6 13 (.pointer (some ⟨p, 0, none⟩)) (by kernel_rfl) (fun _ => by kernel_rfl) hS18 ?_
 refine WDp (NPt hN) 7 14 (.pointer (some ⟨p, 0, none⟩)) (by kernel_rfl) (fun _ => by kernel_rfl) hS18 ?_
 refine WDp (NPt hN) 8 15 (.pointer (some ⟨p, 4, none⟩)) (by kernel_rfl) (fun _ => by kernel_rfl) hS18 ?_
 refine WDl (NPt hN) 4 50 (.pointer (some ⟨p, 2, none⟩)) (.agg #[.int .i64 V.an, .int .i64 V.ad]) 11 (by kernel_rfl) (by kernel_rfl) (fun _ hS_ => run_ld (Fr.has hS_ (hC17.get 0 rfl) (by simpa using hC17.ne 0 1 rfl rfl (by decide))) rfl) hS18 ?_
 refine WD.sem 9 (Instr.loadAt 25 (.pointer (some ⟨p, 4, none⟩))) 16 (.slice va vL.length vc) (by kernel_rfl) (by kernel_rfl) (run_ld (hC17.get 0 rfl) rfl) hS18 ?_
 refine WD.call 10 (by kernel_rfl) rfl rfl rfl rfl rfl (by kernel_rfl) (clone_n va vL.length vc vL w15 (hrd_.frN hf19 (fun _ _ _ => by simp)) rfl (fun m_ h_ => cmdAt.fr0 (hin_.at_ m_ h_) hf19) hvl_) ?_
 rintro _ w25 ⟨A20, c21, L22, R23, rfl, hF24, ho28, hli29, hvv30, hRg31, hdd32⟩
 have hC26 := callNN hC17 hF24 (own_ge ho28) (own_lt ho28) (fun x_ h_ => (hRg31 x_ h_).1) (fun x_ h_ => (hRg31 x_ h_).2) hdd32
 have ho33 := own_base (b' := 0) ho28 (fun _ _ => Nat.zero_le _)
 have hS35 := hS18.trans hF24 (by simp)
 refine ⟨_, rfl, hS35, ?_⟩
 have hf36 := hf19.trans hF24 (by simp)
 obtain ⟨w38, hr39, hF40, hC41⟩ := sto_run (c' := #[.int .i64 V.an, .int .i64 V.ad]) Try.prog hC26 1 50 g3 0 (.agg #[.int .i64 V.an, .int .i64 V.ad]) rfl (by kernel_rfl)
 have hS42 := hS35.trans hF40 (by first | (simp; done) | (simp [*]; done) | (have q_ := hS35.size; simp; omega))
 refine WD.semU 11 (Instr.storeAt 50 (.pointer (some ⟨g3, 0, none⟩)) (.agg #[.int .i64 V.an, .int .i64 V.ad])) (by kernel_rfl) (by kernel_rfl) hr39 hS42 ?_
 have ho43 := own_fr ho33 hF40 (hC26.apartM 0 1 rfl rfl)
 have hl44 := logIn.fr hli29 hF40 (hC26.apartM 1 1 rfl rfl)
 refine WDp (NPt hN) 12 3 (.slice A20 L22.length c21) (by kernel_rfl) (fun _ => by kernel_rfl) hS42 ?_
 refine WD.done (by kernel_rfl) ?_
 refine QXn (hK14 _ _ ?_)
 refine WC.ret ?_
 refine (hret' _ _ (.tuple #[.agg #[.int .i64 V.an, .int .i64 V.ad], .slice A20 L22.length c21]) (fun a ha => ?_) ?_).1
 ·
  exact res_run ha ((ResR.cell rfl (run_ld (hC41.get 1 rfl) rfl) (ResR.tmp rfl ResR.nil))) rfl
 exact ⟨A20, c21, L22, R23, rfl, (hC41.fr.shrink (by intro x_ hx_; simp at hx_; subst hx_; exact (hC41.get 0 rfl).trans hp_.symm)), own_base ho43 (newF_of hC41 0 rfl (by intro x_ hx_; simp at hx_; subst hx_; exact lt_of_heap hp_) (by intro q_ hq_; simp at hq_; subst hq_; exact hC41.notin 0 0 rfl rfl)), hl44, hvv30.trans hvv_, (fun x_ h_ => ⟨newF_of hC41 1 rfl (by intro x_ hx_; simp at hx_; subst hx_; exact lt_of_heap hp_) (by intro q_ hq_; simp at hq_; subst hq_; exact hC41.notin 1 0 rfl rfl) x_ h_, hC41.ltF 1 rfl x_ h_⟩), hdd32⟩

def encBal (b : Int × Int) : List Value := [.int .i64 b.1, .int .i64 b.2]
theorem encBal_len (b : Int × Int) : (encBal b).length = 2 := rfl
theorem encBal_one (b : Int × Int) : (encBal b).all Value.oneCell' = true := rfl
theorem claim_eq (V : Vo) (bs : List (Int × Int)) {i : Nat} (hi : bs.length ≤ i) {x : Int} (hx : ((bs.take i).map (·.1)).foldl max V.pn = x) : IntKind.i64.wrap ((min (max x (0 : Int)) (1099511627775 : Int)) + 1) = claimN V (bs.map (·.1)) := by
  rw [List.take_of_length_le hi] at hx
  unfold claimN
  rw [hx]
  have h1 : (0 : Int) ≤ min (max x 0) 1099511627775 ∧ min (max x 0) 1099511627775 ≤ 1099511627775 := by omega
  generalize min (max x 0) (1099511627775 : Int) = y at h1
  rw [wrap_in_i64 _ (by omega) (by omega)]
theorem max_take {bs : List (Int × Int)} {i : Nat} {b : Int × Int} (h : bs[i]? = some b) (x : Int) : ((bs.take (i + 1)).map (·.1)).foldl max x = max (((bs.take i).map (·.1)).foldl max x) b.1 := by
  obtain ⟨hi, rfl⟩ := List.getElem?_eq_some_iff.1 h
  rw [List.take_succ_eq_append_getElem hi, List.map_append, List.foldl_append]; rfl
theorem Claim_ct (FV : List Nat) (p : Nat) (V : Vo) (sp : Nat) (A : Option Addr) (c : Nat) (bs : List (Int × Int)) (w : World) (hv : voAt w FV p V sp) (hr : Rd w 2 encBal A bs) (hbl : bs.length ≤ 1099511627776) : Calls Try.prog 34 #[.pointer (some ⟨p, 0, none⟩), .slice A bs.length c] w fun e w' => e = .returned (.agg #[.int .i64 (claimN V (bs.map (·.1))), .int .i64 V.node]) ∧ Fr w w' [] := by
 refine enterD (n := 37) Try.func34 rfl rfl (Nat.le_of_ble_eq_true rfl) ?_
 intro Q0 hN hret hret'
 obtain ⟨va, vc, vL, vR, hp_, hrd_, hin_, hvv_, hvl_, rfl, hnp_, hlt_, hw1_, hw2_, hw3_, hw4_, hw5_⟩ := hv
 have hC := Cx.start w
 have hc0_ : w.cell? ⟨p, 0, none⟩ = some (.int .i64 V.pn) := by simp [World.cell?, hp_]
 have hc6_ : w.cell? ⟨p, 6, none⟩ = some (.int .i64 V.node) := by simp [World.cell?, hp_]
 refine WCs (fun K1 hK2 => ?_)
 refine WCg ?_
 refine WL.newM hC (fun b => .pointer (some ⟨b, 0, none⟩)) (.cells #[.int .i64 0, .int .i64 0] 50) 4 (fun _ => by kernel_rfl) (fun g3 w4 hb7 hF5 hC6 => ?_)
 refine WLd rfl (QXn (hK2 _ _ ?_))
 refine WCs (fun K8 hK9 => ?_)
 refine WCs (fun K10 hK11 => ?_)
 refine WCg (WLr 2 [(9, .bool false), (8, .pointer (some ⟨p, 0, none⟩))] (fun _ => by kernel_rfl) (WLd rfl (QXn (hK11 _ _ ?_))))
 refine WCf rfl (WC.skip (QXn (hK9 _ _ ?_)))
 refine WCs (fun K12 hK13 => ?_)
 refine WCg (WLr 5 [(15, .pointer (some ⟨p, 0, none⟩)), (14, .pointer (some ⟨p, 0, none⟩)), (13, .pointer (some ⟨p, 0, none⟩)), (12, .pointer (some ⟨p, 0, none⟩)), (11, .pointer (some ⟨p, 0, none⟩))] (fun _ => by kernel_rfl) ?_)
 refine WL.load 3 (.pointer (some ⟨p, 0, none⟩)) (.int .i64 V.pn) 16 (by kernel_rfl) (run_load1 rfl (hC6.fr.cell (hc0_) (by simp))) ?_
 refine WLr 1 [(5, .int .i64 V.pn)] (fun _ => by kernel_rfl) (WLd rfl (QXn (hK13 _ _ ?_)))
 refine WCs (fun K14 hK15 => ?_)
 refine WCs (fun K16 hK17 => ?_)
 refine WCg (WLr 3 [(19, .int .i64 0), (18, .int .i64 (bs.length : Int)), (17, .slice A bs.length c)] (fun _ => by kernel_rfl) (WLd rfl (QXn (hK17 _ _ ?_))))
 refine WC.block ?_
 refine WC.loop (fun m_ E_ w_ => ∃ (i : Nat), m_ = bs.length - i ∧ E_ = [(0, .pointer (some ⟨p, 0, none⟩)), (4, .pointer (some ⟨g3, 0, none⟩)), (5, .int .i64 (((bs.take i).map (·.1)).foldl max V.pn)), (17, .slice A bs.length c), (18, .int .i64 (bs.length : Int)), (19, .int .i64 (i : Int))] ∧ Cx w [] w_ [(g3, .cells #[.int .i64 0, .int .i64 0] 50)] [] ∧ (i ≤ bs.length)) ⟨_, _, ⟨0, rfl, rfl, hC6, Nat.zero_le _⟩, sub_of ⟨rfl, rfl, rfl, rfl, rfl, rfl, trivial⟩⟩ (fun m21 E_ w22 K18 hK19 hI20 => ?_)
 obtain ⟨i, rfl, rfl, hC23, hi⟩ := hI20
 refine WCs (fun K24 hK25 => ?_)
 refine WCg (WLr 1 [(20, .bool (decide ((i : Int) < (bs.length : Int))))] (fun _ => by kernel_rfl) (WLd rfl (QXn (hK25 _ _ ?_))))
 refine WCs (fun K26 hK27 => ?_)
 refine WCa 20 (decide ((i : Int) < (bs.length : Int))) rfl (fun t28b => ?_) (fun t28b => ?_)
 ·
  have t28 : (i : Int) < (bs.length : Int) := by have q_ := of_decide_eq_true t28b; omega
  refine WCt rfl ?_
  refine WC.skip ?_
  refine QXn (hK27 _ _ ?_)
  refine WCs (fun K29 hK30 => ?_)
  refine WC.block ?_
  refine WCs (fun K31 hK32 => ?_)
  refine WCg ?_
  obtain ⟨e33, he34⟩ := get_some (xs := bs) (i := i) (by omega)
  obtain ⟨b35, o37, hA36, hc38⟩ := hr.at_ _ _ he34
  refine WLi A bs.length c 21 .i64 (i : Int) b35 o37 i 2 (by kernel_rfl) hA36 (by omega) (by omega) (o37 + i * 2) (by first | (simp; done) | omega) ?_
  refine WL.load 50 (.pointer (some ⟨b35, o37 + i * 2, none⟩)) (.agg #[.int .i64 e33.1, .int .i64 e33.2]) 22 (by kernel_rfl) (run_rdN (l := [.int .i64 e33.1, .int .i64 e33.2]) rfl rfl (fun j u hu => by have hq_ := hC23.fr.cell (hc38 j u hu) (by simp); simpa [Nat.add_assoc] using hq_)) ?_
  refine WL.newM hC23 (fun b => .pointer (some ⟨b, 0, none⟩)) (.cells #[.int .i64 0, .int .i64 0] 50) 7 (fun _ => by kernel_rfl) (fun g39 w40 hb43 hF41 hC42 => ?_)
  refine WLs (c' := #[.int .i64 e33.1, .int .i64 e33.2]) hC42 1 50 g39 0 (.agg #[.int .i64 e33.1, .int .i64 e33.2]) (by kernel_rfl) rfl (by kernel_rfl) (fun w44 hF46 hC47 => ?_)
  refine WLd rfl (QXn (hK32 _ _ ?_))
  refine WCg (WLr 2 [(24, .pointer (some ⟨g39, 0, none⟩)), (23, .int .i64 (((bs.take i).map (·.1)).foldl max V.pn))] (fun _ => by kernel_rfl) ?_)
  refine WL.load 3 (.pointer (some ⟨g39, 0, none⟩)) (.int .i64 e33.1) 25 (by kernel_rfl) (run_ld (hC47.get 1 rfl) rfl) ?_
  have hr48 : ∀ w_, Sem.run Try.prog (Builtin.max_ #[3, 3] 3 #[.int .i64 (((bs.take i).map (·.1)).foldl max V.pn), .int .i64 e33.1]) w_ = .ok (.int .i64 (max (((bs.take i).map (·.1)).foldl max V.pn) e33.1)) w_ := fun w_ => run_maxI
  refine WL.sem (Builtin.max_ #[3, 3] 3 #[.int .i64 (((bs.take i).map (·.1)).foldl max V.pn), .int .i64 e33.1]) 26 (.int .i64 (max (((bs.take i).map (·.1)).foldl max V.pn) e33.1)) (by kernel_rfl) (hr48 _) ?_
  refine WLt (show (.int .i64 (max (((bs.take i).map (·.1)).foldl max V.pn) e33.1) : Value) = .int .i64 (((bs.take (i + 1)).map (·.1)).foldl max V.pn) from congrArg (Value.int .i64) (max_take he34 V.pn).symm) ?_
  refine WLr 1 [(5, .int .i64 (((bs.take (i + 1)).map (·.1)).foldl max V.pn))] (fun _ => by kernel_rfl) ?_
  refine WLd rfl ?_
  refine QXb ?_
  refine QXn (hK30 _ _ ?_)
  refine WCg (WLr 1 [(27, .int .i64 (IntKind.i64.wrap ((i : Int) + 1)))] (fun _ => by kernel_rfl) ?_)
  refine WLt (show (.int .i64 (IntKind.i64.wrap ((i : Int) + 1)) : Value) = .int .i64 ((i : Int) + 1) from by rw [wrap_in_i64 ((i : Int) + 1) (by omega) (by omega)]) ?_
  refine WLr 1 [(19, .int .i64 ((i : Int) + 1))] (fun _ => by kernel_rfl) ?_
  refine WLd rfl ?_
  refine QXn ?_
  have hC49 := hC47.pick [0] [] rfl rfl
  refine fun a_ ha_ => hK19 _ _ _ ?_ ⟨i + 1, rfl, rfl, hC49, by omega⟩ a_ (ha_.weaken (sub_of ⟨rfl, rfl, rfl, rfl, rfl, rfl, trivial⟩))
  omega
 ·
  have t28 : (bs.length : Int) ≤ (i : Int) := by have q_ := of_decide_eq_false t28b; omega
  refine WCf rfl ?_
  refine WC.exit ?_
  refine QXe ?_
  refine QXe ?_
  refine QX.block_hit ?_
  refine QXn (hK15 _ _ ?_)
  refine WCs (fun K50 hK51 => ?_)
  refine WCg ?_
  obtain ⟨mx_, hmx_⟩ : ∃ x_, ((bs.take i).map (·.1)).foldl max V.pn = x_ := ⟨_, rfl⟩
  refine WLr 1 [(28, .int .i64 (((bs.take i).map (·.1)).foldl max V.pn))] (fun _ => by kernel_rfl) ?_
  refine WLt (show (.int .i64 (((bs.take i).map (·.1)).foldl max V.pn) : Value) = .int .i64 mx_ from congrArg (Value.int .i64) hmx_) ?_
  have hr52 : ∀ w_, Sem.run Try.prog (Builtin.max_ #[3, 3] 3 #[.int .i64 mx_, .int .i64 0]) w_ = .ok (.int .i64 (max mx_ (0 : Int))) w_ := fun w_ => run_maxI
  refine WL.sem (Builtin.max_ #[3, 3] 3 #[.int .i64 mx_, .int .i64 0]) 29 (.int .i64 (max mx_ (0 : Int))) (by kernel_rfl) (hr52 _) ?_
  have hr53 : ∀ w_, Sem.run Try.prog (Builtin.min_ #[3, 3] 3 #[.int .i64 (max mx_ (0 : Int)), .int .i64 1099511627775]) w_ = .ok (.int .i64 (min (max mx_ (0 : Int)) (1099511627775 : Int))) w_ := fun w_ => run_minI
  refine WL.sem (Builtin.min_ #[3, 3] 3 #[.int .i64 (max mx_ (0 : Int)), .int .i64 1099511627775]) 30 (.int .i64 (min (max mx_ (0 : Int)) (1099511627775 : Int))) (by kernel_rfl) (hr53 _) ?_
  refine WLr 1 [(31, .int .i64 (IntKind.i64.wrap ((min (max mx_ (0 : Int)) (1099511627775 : Int)) + 1)))] (fun _ => by kernel_rfl) ?_
  refine WLt (show (.int .i64 (IntKind.i64.wrap ((min (max mx_ (0 : Int)) (1099511627775 : Int)) + 1)) : Value) = .int .i64 (claimN V (bs.map (·.1))) from congrArg (Value.int .i64) (claim_eq V bs (by omega) hmx_)) ?_
  refine WLr 3 [(34, .pointer (some ⟨p, 6, none⟩)), (33, .pointer (some ⟨p, 0, none⟩)), (32, .pointer (some ⟨p, 0, none⟩))] (fun _ => by kernel_rfl) ?_
  refine WL.load 3 (.pointer (some ⟨p, 6, none⟩)) (.int .i64 V.node) 35 (by kernel_rfl) (run_load1 rfl (hC23.fr.cell (hc6_) (by simp))) ?_
  refine WLr 1 [(36, .agg #[.int .i64 (claimN V (bs.map (·.1))), .int .i64 V.node])] (fun _ => by kernel_rfl) ?_
  refine WLs (c' := #[.int .i64 (claimN V (bs.map (·.1))), .int .i64 V.node]) hC23 0 50 g3 0 (.agg #[.int .i64 (claimN V (bs.map (·.1))), .int .i64 V.node]) (by kernel_rfl) rfl (by kernel_rfl) (fun w54 hF56 hC57 => ?_)
  refine WLd rfl (QXn (hK51 _ _ ?_))
  refine WC.ret ?_
  refine (hret' _ _ (.agg #[.int .i64 (claimN V (bs.map (·.1))), .int .i64 V.node]) (fun a ha => ?_) ?_).1
  ·
   exact res_run ha ((ResR.cell rfl (run_ld (hC57.get 0 rfl) rfl) ResR.nil)) rfl
  exact ⟨rfl, hC57.fr⟩

end Go.Proofs.Ytjacpjdikhlcoaa
