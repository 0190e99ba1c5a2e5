/- Contracts of functions of the program, each proved by a walk through its code; conditions stand in the statements. -/
import Derived.Test.YtjacpjdikhlcoaaVtJ14
namespace Go.Proofs.Ytjacpjdikhlcoaa
set_option linter.unusedSimpArgs false
set_option linter.unusedVariables false
set_option linter.unusedSectionVars false
open Go Go.RowKit Go.Tw
set_option linter.unusedVariables false
set_option maxRecDepth 20000
theorem keep0_yes (p sp : Nat) (F : List Nat) (N Y : Ct) (size pn pd an ad nd rn rd ra rb : Int) (va : Option Addr) (vn vc : Nat) (la : Option Addr) (ln lc : Nat) (w : World) (hp : w.heap[p]? = some (.cells #[.int .i64 pn, .int .i64 pd, .int .i64 an, .int .i64 ad, .slice va vn vc, .pointer (some ⟨sp, 0, none⟩), .int .i64 nd] 112 (0, 0))) (ht : stAt w F sp N Y size) (hpF : p ∉ F) (h1 : putE N size kP 16 = 0) : Calls Try.prog 53 #[.pointer (some ⟨p, 0, none⟩), .agg #[.int .i64 rn, .int .i64 rd, .int .i64 ra, .int .i64 rb, .slice la ln lc], .bool false] w fun e w' => ∃ F2, e = .returned .nilIface ∧ Fr w w' (p :: F) ∧ stAt w' F2 sp (putL N kP (bytesN [rn, rd])) (putL N kP (bytesN [rn, rd])) size ∧ (∀ x ∈ F2, x ∈ F ∨ w.heap.size ≤ x) ∧ p ∉ F2 ∧ w'.heap[p]? = some (.cells #[.int .i64 rn, .int .i64 rd, .int .i64 ra, .int .i64 rb, .slice la ln lc, .pointer (some ⟨sp, 0, none⟩), .int .i64 nd] 112 (0, 0)) := by
  refine (keep0_ct p sp F N Y size pn pd an ad nd rn rd ra rb va vn vc la ln lc w hp ht hpF).mono ?_
  rintro e w' ⟨F2, rfl, h2, h3, h4, h5, h6⟩
  have hs : putS N size kP (bytesN [rn, rd]) = putL N kP (bytesN [rn, rd]) := by unfold putS; rw [bytes2_len, h1, if_pos rfl]
  rw [h1, if_pos rfl, hs] at h3
  rw [h1, if_pos rfl] at h6
  exact ⟨F2, by rw [h1]; rfl, h2, h3, h4, h5, h6⟩
theorem asked_ct (FV : List Nat) (p : Nat) (V : Vo) (sp : Nat) (n d : Int) (w : World) (hv : voAt w FV p V sp) (hd : isI64 d) : Calls Try.prog 52 #[.pointer (some ⟨p, 0, none⟩), .agg #[.int .i64 n, .int .i64 d]] w fun e w' => e = .returned (errV 35 (askedE V n d)) ∧ Fr w w' [] := by
 refine enterD (n := 23) Try.func52 rfl rfl (Nat.le_of_ble_eq_true rfl) ?_
 intro Q0 hN hret hret'
 have hv0 := hv
 obtain ⟨va, vc, vL, vR, hp_, hrd_, hin_, hvv_, hvl_, rfl, hnp_, hlt_, hw1_, hw2_, hw3_, hw4_, hw5_⟩ := hv
 have hC := Cx.startMs w [(p, .cells #[.int .i64 V.pn, .int .i64 V.pd, .int .i64 V.an, .int .i64 V.ad, .slice va vL.length vc, .pointer (some ⟨sp, 0, none⟩), .int .i64 V.node] 112)] (by simp) (by simp [hp_])
 refine WC.seq (fun K1 hK2 => ?_)
 refine WC.region ?_
 refine WL.newM hC (fun b => .pointer (some ⟨b, 0, none⟩)) (.cells #[.int .i64 n, .int .i64 d] 50) 3 (fun _ => by kernel_rfl) (fun g3 w4 hb7 hF5 hC6 => ?_)
 have hf8 := (Fr.refl w []).trans hF5 (by simp)
 refine WL.runs 1 [(4, .nilIface)] (fun _ => by kernel_rfl) ?_
 refine WL.done rfl ?_
 refine QX.then_normal (hK2 _ _ ?_)
 refine WC.seq (fun K9 hK10 => ?_)
 refine WC.block ?_
 refine WC.seq (fun K11 hK12 => ?_)
 refine WC.region ?_
 refine WL.runs 3 [(8, .bool false), (7, .bool false), (6, .pointer (some ⟨p, 0, none⟩))] (fun _ => by kernel_rfl) ?_
 refine WL.load 50 (.pointer (some ⟨g3, 0, none⟩)) (.agg #[.int .i64 n, .int .i64 d]) 9 (by kernel_rfl) (run_ld (hC6.get 1 rfl) rfl) ?_
 refine WL.call rfl rfl rfl rfl rfl (by kernel_rfl) (goodBallot_ct n d w4 hd) ?_
 rintro _ w14 ⟨rfl, hF13⟩
 refine ⟨_, rfl, ?_⟩
 have hC15 := hC6.call hF13
 have hf16 := hf8.trans hF13 (by simp)
 refine WL.runs 3 [(5, .bool (!(goodBal n d))), (12, .bool (!(goodBal n d))), (11, .bool (!(goodBal n d)))] (fun _ => by kernel_rfl) ?_
 refine WL.done rfl ?_
 refine QX.then_normal (hK12 _ _ ?_)
 refine WC.test_at 5 (!(goodBal n d)) rfl (fun t17b => ?_) (fun t17b => ?_)
 ·
  have t17 : (goodBal n d) = false := by first | (simpa only [Bool.not_eq_true', Bool.not_eq_false'] using t17b) | simpa using t17b
  refine WC.cond_true rfl ?_
  refine WC.seq (fun K18 hK19 => ?_)
  refine WC.region ?_
  refine WL.runs 2 [(4, .iface 35 (.int .i64 9)), (13, .iface 35 (.int .i64 9))] (fun _ => by kernel_rfl) ?_
  refine WL.done rfl ?_
  refine QX.then_normal (hK19 _ _ ?_)
  refine WC.ret ?_
  refine QX.block_ret ?_
  refine QX.then_ret ?_
  refine (hret _ _ _ rfl ?_).1
  clear hN hret hret' hK19 hK12 hK10 hK2
  have g_ : goodBal n d = false := (by simpa using t17b)
  unfold askedE
  rw [if_pos g_]
  exact ⟨rfl, hf16⟩
 ·
  have t17 : (goodBal n d) = true := by first | (simpa only [Bool.not_eq_true', Bool.not_eq_false'] using t17b) | simpa using t17b
  refine WC.cond_false rfl ?_
  refine WC.seq (fun K20 hK21 => ?_)
  refine WC.drawC hC15 [] (by kernel_rfl) (fun w22 hF23 hC24 hS25 => ?_)
  have hf26 := hf16.trans hF23 (by simp)
  refine WD.pure (NoPanic.then (NoPanic.block (NoPanic.then hN))) 1 16 (.pointer (some ⟨p, 0, none⟩)) (by kernel_rfl) (fun _ => by kernel_rfl) hS25 ?_
  refine WD.pure (NoPanic.then (NoPanic.block (NoPanic.then hN))) 2 17 (.pointer (some ⟨p, 0, none⟩)) (by kernel_rfl) (fun _ => by kernel_rfl) hS25 ?_
  refine WD.pure (NoPanic.then (NoPanic.block (NoPanic.then hN))) 3 18 (.pointer (some ⟨p, 0, none⟩)) (by kernel_rfl) (fun _ => by kernel_rfl) hS25 ?_
  refine WD.pure (NoPanic.then (NoPanic.block (NoPanic.then hN))) 4 19 (.pointer (some ⟨p, 0, none⟩)) (by kernel_rfl) (fun _ => by kernel_rfl) hS25 ?_
  refine WD.load (NoPanic.then (NoPanic.block (NoPanic.then hN))) 0 50 (.pointer (some ⟨g3, 0, none⟩)) (.agg #[.int .i64 n, .int .i64 d]) 15 (by kernel_rfl) (by kernel_rfl) (fun _ hS_ => run_ld (Fr.has hS_ (hC24.get 1 rfl) (by simp)) rfl) hS25 ?_
  refine WD.load (NoPanic.then (NoPanic.block (NoPanic.then hN))) 5 50 (.pointer (some ⟨p, 0, none⟩)) (.agg #[.int .i64 V.pn, .int .i64 V.pd]) 20 (by kernel_rfl) (by kernel_rfl) (fun _ hS_ => run_ld (Fr.has hS_ (hC24.get 0 rfl) (by simp)) rfl) hS25 ?_
  refine WD.call 6 (by kernel_rfl) rfl rfl rfl rfl rfl (by kernel_rfl) (Less_ct n d V.pn V.pd w22) ?_
  rintro _ w28 ⟨rfl, hF27⟩
  have hS30 := hS25.trans hF27 (by simp)
  refine ⟨_, rfl, hS30, ?_⟩
  have hC29 := hC24.call hF27
  have hf31 := hf26.trans hF27 (by simp)
  refine WD.pure (NoPanic.then (NoPanic.block (NoPanic.then hN))) 7 14 (.bool (lessB n d V.pn V.pd)) (by kernel_rfl) (fun _ => by kernel_rfl) hS30 ?_
  refine WD.done (by kernel_rfl) ?_
  refine QX.then_normal (hK21 _ _ ?_)
  refine WC.test_at 14 (lessB n d V.pn V.pd) rfl (fun t32b => ?_) (fun t32b => ?_)
  ·
   refine WC.cond_true rfl ?_
   refine WC.seq (fun K33 hK34 => ?_)
   refine WC.region ?_
   refine WL.runs 2 [(4, .iface 35 (.int .i64 8)), (22, .iface 35 (.int .i64 8))] (fun _ => by kernel_rfl) ?_
   refine WL.done rfl ?_
   refine QX.then_normal (hK34 _ _ ?_)
   refine WC.ret ?_
   refine QX.block_ret ?_
   refine QX.then_ret ?_
   refine (hret _ _ _ rfl ?_).1
   clear hN hret hret' hK34 hK21 hK12 hK10 hK2
   have g_ : goodBal n d = true := (by simpa using t17b)
   have l_ : lessB n d V.pn V.pd = true := t32b
   unfold askedE
   rw [if_neg (by rw [g_]; decide), l_]
   exact ⟨rfl, hf31⟩
  ·
   refine WC.cond_false rfl ?_
   refine WC.skip ?_
   refine QX.block_normal ?_
   refine QX.then_normal (hK10 _ _ ?_)
   refine WC.seq (fun K35 hK36 => ?_)
   refine WC.region ?_
   refine WL.runs 1 [(4, .nilIface)] (fun _ => by kernel_rfl) ?_
   refine WL.done rfl ?_
   refine QX.then_normal (hK36 _ _ ?_)
   refine WC.ret ?_
   refine (hret _ _ _ rfl ?_).1
   clear hN hret hret' hK36 hK21 hK12 hK10 hK2
   have g_ : goodBal n d = true := (by simpa using t17b)
   have l_ : lessB n d V.pn V.pd = false := t32b
   unfold askedE
   rw [if_neg (by rw [g_]; decide), l_]
   exact ⟨rfl, hf31⟩

theorem clone_n (A : Option Addr) (n c : Nat) (L : List Cmd) (w : World) (hr : Rd w 12 cellsC A L) (hn : L.length = n) (hL : ∀ m ∈ L, cmdAt w m) (hl : n ≤ 1099511627776) : Calls Try.prog 50 #[.slice A n c] w fun e w' => ∃ (A2 : Option Addr) (c2 : Nat) (L2 : List Cmd) (R2 : List Nat), e = .returned (.slice A2 L2.length c2) ∧ Fr w w' [] ∧ w'.ownsRow w.heap.size 61 12 (.slice A2 L2.length c2) L2.length (L2.flatMap cellsC) ∧ logIn w' R2 L2 ∧ vals L2 = vals L ∧ (∀ x ∈ R2, w.heap.size ≤ x ∧ x < w'.heap.size) ∧ (∀ x ∈ blk (.slice A2 L2.length c2), x ∉ R2) := by subst hn; exact clone_ct A c L w hr hL hl
theorem callNN {w0 w w' : World} {F0 : List Nat} {M : List (Nat × Obj)} {Fs : List (List Nat)} (h : Cx w0 F0 w M Fs) (hf : Fr w w' []) {G R : List Nat} (hg : ∀ x ∈ G, w.heap.size ≤ x) (hb : ∀ x ∈ G, x < w'.heap.size) (hr : ∀ x ∈ R, w.heap.size ≤ x) (hrb : ∀ x ∈ R, x < w'.heap.size) (hd : ∀ x ∈ G, x ∉ R) : Cx w0 F0 w' M (Fs ++ [G, R]) := by
  have h1 := h.callN hf hg hb
  refine ⟨h1.fr, h1.has, h1.nodup, ?_, ?_, ?_, h1.ownM, ?_⟩
  · rw [List.pairwise_append]
    refine ⟨h.sep, by simpa using hd, fun A hA B hB x hx hxB => ?_⟩
    have hlt := h.bound A hA x hx
    simp only [List.mem_cons, List.not_mem_nil, or_false] at hB
    rcases hB with rfl | rfl
    · have := hg x hxB; omega
    · have := hr x hxB; omega
  · intro A hA p hp hx
    rcases List.mem_append.1 hA with hA | hA
    · exact h.apart A hA p hp hx
    · simp only [List.mem_cons, List.not_mem_nil, or_false] at hA
      have hlt := h.lt hp
      rcases hA with rfl | rfl
      · have := hg _ hx; omega
      · have := hr _ hx; omega
  · intro A hA x hx
    rcases List.mem_append.1 hA with hA | hA
    · exact Nat.lt_of_lt_of_le (h.bound A hA x hx) hf.size
    · simp only [List.mem_cons, List.not_mem_nil, or_false] at hA
      rcases hA with rfl | rfl
      · exact hb x hx
      · exact hrb x hx
  · intro A hA x hx
    rcases List.mem_append.1 hA with hA | hA
    · exact h.ownF A hA x hx
    · simp only [List.mem_cons, List.not_mem_nil, or_false] at hA
      rcases hA with rfl | rfl
      · exact .inr (Nat.le_trans h.fr.size (hg x hx))
      · exact .inr (Nat.le_trans h.fr.size (hr x hx))
def encBal (b : Int × Int) : List Value := [.int .i64 b.1, .int .i64 b.2]
end Go.Proofs.Ytjacpjdikhlcoaa
