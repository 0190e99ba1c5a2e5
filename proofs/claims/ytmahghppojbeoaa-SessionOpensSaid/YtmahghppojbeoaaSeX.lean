/- Contracts of functions of the program, each proved by a walk through its code; conditions stand in the statements. -/
import Derived.Test.YtmahghppojbeoaaSeS
import Derived.Sort.AssemblyPlain
namespace Go.Proofs.Ytmahghppojbeoaa
set_option linter.unusedSimpArgs false
set_option linter.unusedVariables false
set_option linter.unusedSectionVars false
open Go Go.RowKit Go.Tw
set_option linter.unusedVariables false
set_option maxRecDepth 20000
open Go.Sort
theorem o2_ct (A : Option Addr) (c : Nat) (xs : List Int) (p : Nat) (sw : Int) (lo hi : Nat) (a b : Nat)  (w : World) (hr : Rd w 1 (Go.Tw.encI .u32) A xs) (hlen : xs.length ≤ 1099511627776) (hp : w.heap[p]? = some (.cells #[.int .i64 sw] 3 (0, 0))) (hpA : ∀ b off, A = some ⟨b, off, none⟩ → b ≠ p) (hhi : hi ≤ xs.length) (ha0 : lo ≤ a) (ha1 : a < hi) (hb0 : lo ≤ b) (hb1 : b < hi) : Calls Try.prog 100 #[.slice A xs.length c, .int .i64 (a : Int), .int .i64 (b : Int), .pointer (some ⟨p, 0, none⟩)] w fun e w' => ∃ (x y : Nat) (sw' : Int), e = .returned (.tuple #[.int .i64 (x : Int), .int .i64 (y : Int)]) ∧ Fr w w' [p] ∧ w'.heap[p]? = some (.cells #[.int .i64 sw'] 3 (0, 0)) ∧ (lo ≤ x ∧ x < hi) ∧ (lo ≤ y ∧ y < hi) := by
 refine enterD (n := 28) Try.func100 rfl rfl (Nat.le_of_ble_eq_true rfl) ?_
 intro Q0 hN hret hret'
 have hC := Cx.startMs w [(p, .cells #[.int .i64 sw] 3)] (by simp) (by simp [hp])
 refine WCs (fun K1 hK2 => ?_)
 refine WCg (WLq 2 [(9, .int .i64 0), (8, .int .i64 0)] (WLd rfl (QXn (hK2 _ _ ?_))))
 refine WCs (fun K3 hK4 => ?_)
 refine WCs (fun K5 hK6 => ?_)
 refine WC.drawC hC [] (by kernel_rfl) (fun w7 hF8 hC9 aa => ?_)
 refine WDq (NPt (NPt hN)) 0 10 (.slice A xs.length c) aa ?_
 refine WDq (NPt (NPt hN)) 1 11 (.int .i64 (b : Int)) aa ?_
 obtain ⟨ag, ah⟩ := get_some (xs := xs) (i := b) (by omega)
 obtain ⟨b13, o15, ac, ai⟩ := hr.at_ _ _ ah
 refine WDi (NPt (NPt hN)) 2 A xs.length c 12 .i64 (b : Int) b13 o15 b 1 (by kernel_rfl) (by kernel_rfl) ac (by omega) (by omega) (o15 + b) (by first | (simp; done) | omega) aa ?_
 refine WDq (NPt (NPt hN)) 4 14 (.slice A xs.length c) aa ?_
 refine WDq (NPt (NPt hN)) 5 15 (.int .i64 (a : Int)) aa ?_
 obtain ⟨aj, ak⟩ := get_some (xs := xs) (i := a) (by omega)
 obtain ⟨b19, o21, ad, al⟩ := hr.at_ _ _ ak
 refine WDi (NPt (NPt hN)) 6 A xs.length c 16 .i64 (a : Int) b19 o21 a 1 (by kernel_rfl) (by kernel_rfl) ad (by omega) (by omega) (o21 + a) (by first | (simp; done) | omega) aa ?_
 refine WDm (NPt (NPt hN)) 3 44 (.pointer (some ⟨b13, o15 + b, none⟩)) (.int .u32 ag) 13 (fun _ hS_ => run_load1 rfl (by simpa [Nat.add_assoc] using Fr.cell hS_ (hC9.fr.cell (ai 0 _ rfl) (by simpa using hpA _ _ ac)) (by simp))) aa ?_
 refine WDm (NPt (NPt hN)) 7 44 (.pointer (some ⟨b19, o21 + a, none⟩)) (.int .u32 aj) 17 (fun _ hS_ => run_load1 rfl (by simpa [Nat.add_assoc] using Fr.cell hS_ (hC9.fr.cell (al 0 _ rfl) (by simpa using hpA _ _ ad)) (by simp))) aa ?_
 refine WD.call 8 (by kernel_rfl) rfl rfl rfl rfl rfl (by kernel_rfl) (Less_ct ag aj w7) ?_
 rintro _ au ⟨rfl, ae⟩
 have am := aa.trans ae (by simp)
 refine ⟨_, rfl, am, ?_⟩
 have ab := hC9.call ae
 refine WD.done (by kernel_rfl) ?_
 refine QXn (hK6 _ _ ?_)
 refine WCa 18 (decide (ag < aj)) rfl (fun an => ?_) (fun an => ?_)
 ·
  refine WCt rfl ?_
  refine WCs (fun av ao => ?_)
  refine WCg (WLq 2 [(20, .pointer (some ⟨p, 0, none⟩)), (19, .pointer (some ⟨p, 0, none⟩))] ?_)
  refine WLo 3 (.pointer (some ⟨p, 0, none⟩)) (.int .i64 sw) 21 (run_ld (ab.get 0 rfl) rfl) ?_
  refine WLq 2 [(23, .pointer (some ⟨p, 0, none⟩)), (22, .int .i64 (IntKind.i64.wrap (sw + 1)))] ?_
  refine WLs (c' := #[.int .i64 (IntKind.i64.wrap (sw + 1))]) ab 0 3 p 0 (.int .i64 (IntKind.i64.wrap (sw + 1))) (by kernel_rfl) rfl (by kernel_rfl) (fun aw ar af => ?_)
  refine WLd rfl (QXn (ao _ _ ?_))
  refine WCs (fun ax ap => ?_)
  refine WCg (WLq 4 [(9, .int .i64 (a : Int)), (8, .int .i64 (b : Int)), (25, .int .i64 (a : Int)), (24, .int .i64 (b : Int))] (WLd rfl (QXn (ap _ _ ?_))))
  refine WC.ret ?_
  refine QXr ?_
  refine (hret _ _ _ rfl ?_).1
  exact ⟨b, a, _, rfl, af.fr, af.get 0 rfl, ⟨hb0, hb1⟩, ⟨ha0, ha1⟩⟩
 ·
  refine WCf rfl (WC.skip (QXn (hK4 _ _ ?_)))
  refine WCs (fun ay aq => ?_)
  refine WCg (WLq 4 [(9, .int .i64 (b : Int)), (8, .int .i64 (a : Int)), (27, .int .i64 (b : Int)), (26, .int .i64 (a : Int))] (WLd rfl (QXn (aq _ _ ?_))))
  refine WC.ret ?_
  refine (hret _ _ _ rfl ?_).1
  exact ⟨a, b, _, rfl, ab.fr, ab.get 0 rfl, ⟨ha0, ha1⟩, ⟨hb0, hb1⟩⟩

theorem o2_n (A : Option Addr) (c n : Nat) (xs : List Int) (hn : xs.length = n) (p : Nat) (sw : Int) (lo hi : Nat) (a b : Nat) (w : World) (hr : Rd w 1 (Go.Tw.encI .u32) A xs) (hlen : n ≤ 1099511627776) (hp : w.heap[p]? = some (.cells #[.int .i64 sw] 3 (0, 0))) (hpA : ∀ b off, A = some ⟨b, off, none⟩ → b ≠ p) (hhi : hi ≤ n) (ha0 : lo ≤ a) (ha1 : a < hi) (hb0 : lo ≤ b) (hb1 : b < hi) : Calls Try.prog 100 #[.slice A n c, .int .i64 (a : Int), .int .i64 (b : Int), .pointer (some ⟨p, 0, none⟩)] w fun e w' => ∃ (x y : Nat) (sw' : Int), e = .returned (.tuple #[.int .i64 (x : Int), .int .i64 (y : Int)]) ∧ Fr w w' [p] ∧ w'.heap[p]? = some (.cells #[.int .i64 sw'] 3 (0, 0)) ∧ (lo ≤ x ∧ x < hi) ∧ (lo ≤ y ∧ y < hi) := by subst hn; exact o2_ct A c xs p sw lo hi a b w hr hlen hp hpA hhi ha0 ha1 hb0 hb1
theorem med_ct (A : Option Addr) (c : Nat) (xs : List Int) (p : Nat) (sw : Int) (lo hi : Nat) (a b d : Nat)  (w : World) (hr : Rd w 1 (Go.Tw.encI .u32) A xs) (hlen : xs.length ≤ 1099511627776) (hp : w.heap[p]? = some (.cells #[.int .i64 sw] 3 (0, 0))) (hpA : ∀ b off, A = some ⟨b, off, none⟩ → b ≠ p) (hhi : hi ≤ xs.length) (ha0 : lo ≤ a) (ha1 : a < hi) (hb0 : lo ≤ b) (hb1 : b < hi) (hd0 : lo ≤ d) (hd1 : d < hi) : Calls Try.prog 94 #[.slice A xs.length c, .int .i64 (a : Int), .int .i64 (b : Int), .int .i64 (d : Int), .pointer (some ⟨p, 0, none⟩)] w fun e w' => ∃ (x : Nat) (sw' : Int), e = .returned (.int .i64 (x : Int)) ∧ Fr w w' [p] ∧ w'.heap[p]? = some (.cells #[.int .i64 sw'] 3 (0, 0)) ∧ (lo ≤ x ∧ x < hi) := by
 refine enterD (n := 36) Try.func94 rfl rfl (Nat.le_of_ble_eq_true rfl) ?_
 intro Q0 hN hret hret'
 have hC := Cx.startMs w [(p, .cells #[.int .i64 sw] 3)] (by simp) (by simp [hp])
 refine WCs (fun K1 hK2 => ?_)
 refine WCg (WLq 1 [(10, .int .i64 0)] (WLd rfl (QXn (hK2 _ _ ?_))))
 refine WCs (fun K3 hK4 => ?_)
 refine WCg (WLq 4 [(15, .pointer (some ⟨p, 0, none⟩)), (14, .int .i64 (b : Int)), (13, .int .i64 (a : Int)), (12, .slice A xs.length c)] ?_)
 refine WLc rfl rfl rfl rfl rfl (by kernel_rfl) (o2_n A c xs.length xs rfl p sw lo hi a b w (Rd.frN hr hC.fr (fun b_ off_ e_ => by simpa using hpA b_ off_ e_)) hlen (hC.get 0 rfl) hpA hhi (by omega) (by omega) (by omega) (by omega)) ?_
 rintro _ w5 ⟨x10, x11, sw8, rfl, hF6, hp7, ⟨al, am⟩, ⟨an, ao⟩⟩
 have hC9 := hC.callM 0 rfl hF6 hp7
 refine ⟨_, rfl, ?_⟩
 refine WLq 5 [(2, .int .i64 (x11 : Int)), (1, .int .i64 (x10 : Int)), (18, .int .i64 (x11 : Int)), (17, .int .i64 (x10 : Int)), (11, .tuple #[.int .i64 (x10 : Int), .int .i64 (x11 : Int)])] (WLd rfl (QXn (hK4 _ _ ?_)))
 refine WCs (fun ay ac => ?_)
 refine WCg (WLq 4 [(23, .pointer (some ⟨p, 0, none⟩)), (22, .int .i64 (d : Int)), (21, .int .i64 (x11 : Int)), (20, .slice A xs.length c)] ?_)
 refine WLc rfl rfl rfl rfl rfl (by kernel_rfl) (o2_n A c xs.length xs rfl p sw8 lo hi x11 d w5 (Rd.frN hr hC9.fr (fun b_ off_ e_ => by simpa using hpA b_ off_ e_)) hlen (hC9.get 0 rfl) hpA hhi (by omega) (by omega) (by omega) (by omega)) ?_
 rintro _ ap ⟨x23, x24, sw21, rfl, ad, ae, ⟨aq, ar⟩, ⟨au, av⟩⟩
 have aa := hC9.callM 0 rfl ad ae
 refine ⟨_, rfl, ?_⟩
 refine WLq 5 [(3, .int .i64 (x24 : Int)), (2, .int .i64 (x23 : Int)), (26, .int .i64 (x24 : Int)), (25, .int .i64 (x23 : Int)), (19, .tuple #[.int .i64 (x23 : Int), .int .i64 (x24 : Int)])] (WLd rfl (QXn (ac _ _ ?_)))
 refine WCs (fun az af => ?_)
 refine WCg (WLq 4 [(31, .pointer (some ⟨p, 0, none⟩)), (30, .int .i64 (x23 : Int)), (29, .int .i64 (x10 : Int)), (28, .slice A xs.length c)] ?_)
 refine WLc rfl rfl rfl rfl rfl (by kernel_rfl) (o2_n A c xs.length xs rfl p sw21 lo hi x10 x23 ap (Rd.frN hr aa.fr (fun b_ off_ e_ => by simpa using hpA b_ off_ e_)) hlen (aa.get 0 rfl) hpA hhi (by omega) (by omega) (by omega) (by omega)) ?_
 rintro _ aA ⟨x36, x37, sw34, rfl, ag, ah, ⟨aw, ax⟩, ⟨ai, aj⟩⟩
 have ab := aa.callM 0 rfl ag ah
 refine ⟨_, rfl, ?_⟩
 refine WLq 5 [(2, .int .i64 (x37 : Int)), (1, .int .i64 (x36 : Int)), (34, .int .i64 (x37 : Int)), (33, .int .i64 (x36 : Int)), (27, .tuple #[.int .i64 (x36 : Int), .int .i64 (x37 : Int)])] (WLd rfl (QXn (af _ _ ?_)))
 refine WCs (fun aB ak => ?_)
 refine WCg (WLq 2 [(10, .int .i64 (x37 : Int)), (35, .int .i64 (x37 : Int))] (WLd rfl (QXn (ak _ _ ?_))))
 refine WC.ret ?_
 refine (hret _ _ _ rfl ?_).1
 exact ⟨x37, _, rfl, ab.fr, ab.get 0 rfl, ⟨ai, aj⟩⟩

theorem med_n (A : Option Addr) (c n : Nat) (xs : List Int) (hn : xs.length = n) (p : Nat) (sw : Int) (lo hi : Nat) (a b d : Nat) (w : World) (hr : Rd w 1 (Go.Tw.encI .u32) A xs) (hlen : n ≤ 1099511627776) (hp : w.heap[p]? = some (.cells #[.int .i64 sw] 3 (0, 0))) (hpA : ∀ b off, A = some ⟨b, off, none⟩ → b ≠ p) (hhi : hi ≤ n) (ha0 : lo ≤ a) (ha1 : a < hi) (hb0 : lo ≤ b) (hb1 : b < hi) (hd0 : lo ≤ d) (hd1 : d < hi) : Calls Try.prog 94 #[.slice A n c, .int .i64 (a : Int), .int .i64 (b : Int), .int .i64 (d : Int), .pointer (some ⟨p, 0, none⟩)] w fun e w' => ∃ (x : Nat) (sw' : Int), e = .returned (.int .i64 (x : Int)) ∧ Fr w w' [p] ∧ w'.heap[p]? = some (.cells #[.int .i64 sw'] 3 (0, 0)) ∧ (lo ≤ x ∧ x < hi) := by subst hn; exact med_ct A c xs p sw lo hi a b d w hr hlen hp hpA hhi ha0 ha1 hb0 hb1 hd0 hd1
theorem mad_ct (A : Option Addr) (c : Nat) (xs : List Int) (p : Nat) (sw : Int) (lo hi : Nat) (a : Nat)  (w : World) (hr : Rd w 1 (Go.Tw.encI .u32) A xs) (hlen : xs.length ≤ 1099511627776) (hp : w.heap[p]? = some (.cells #[.int .i64 sw] 3 (0, 0))) (hpA : ∀ b off, A = some ⟨b, off, none⟩ → b ≠ p) (hhi : hi ≤ xs.length) (ha0 : lo + 1 ≤ a) (ha1 : a + 1 < hi) : Calls Try.prog 93 #[.slice A xs.length c, .int .i64 (a : Int), .pointer (some ⟨p, 0, none⟩)] w fun e w' => ∃ (x : Nat) (sw' : Int), e = .returned (.int .i64 (x : Int)) ∧ Fr w w' [p] ∧ w'.heap[p]? = some (.cells #[.int .i64 sw'] 3 (0, 0)) ∧ (lo ≤ x ∧ x < hi) := by
 refine enterD (n := 15) Try.func93 rfl rfl (Nat.le_of_ble_eq_true rfl) ?_
 intro Q0 hN hret hret'
 have hC := Cx.startMs w [(p, .cells #[.int .i64 sw] 3)] (by simp) (by simp [hp])
 refine WCs (fun K1 hK2 => ?_)
 refine WCg (WLq 1 [(6, .int .i64 0)] (WLd rfl (QXn (hK2 _ _ ?_))))
 refine WCs (fun K3 hK4 => ?_)
 refine WCg (WLq 3 [(9, .int .i64 (IntKind.i64.wrap ((a : Int) - 1))), (8, .int .i64 (a : Int)), (7, .slice A xs.length c)] ?_)
 refine WLt (show (.int .i64 (IntKind.i64.wrap ((a : Int) - 1)) : Value) = .int .i64 ((a - 1 : Nat) : Int) from by rw [wrap_in_i64 _ (by omega) (by omega)] <;> first | rfl | (congr 1; done) | (congr 1; omega)) ?_
 refine WLq 3 [(12, .int .i64 (IntKind.i64.wrap ((a : Int) + 1))), (11, .int .i64 (a : Int)), (10, .int .i64 (a : Int))] ?_
 refine WLt (show (.int .i64 (IntKind.i64.wrap ((a : Int) + 1)) : Value) = .int .i64 ((a + 1 : Nat) : Int) from by rw [wrap_in_i64 _ (by omega) (by omega)] <;> first | rfl | (congr 1; done) | (congr 1; omega)) ?_
 refine WLq 1 [(13, .pointer (some ⟨p, 0, none⟩))] ?_
 refine WLc rfl rfl rfl rfl rfl (by kernel_rfl) (med_n A c xs.length xs rfl p sw lo hi (a - 1) a (a + 1) w (Rd.frN hr hC.fr (fun b_ off_ e_ => by simpa using hpA b_ off_ e_)) hlen (hC.get 0 rfl) hpA hhi (by omega) (by omega) (by omega) (by omega) (by omega) (by omega)) ?_
 rintro _ w5 ⟨x10, sw8, rfl, hF6, hp7, ⟨aa, ab⟩⟩
 have hC9 := hC.callM 0 rfl hF6 hp7
 refine ⟨_, rfl, ?_⟩
 refine WLq 1 [(6, .int .i64 (x10 : Int))] (WLd rfl (QXn (hK4 _ _ ?_)))
 refine WC.ret ?_
 refine (hret _ _ _ rfl ?_).1
 exact ⟨x10, _, rfl, hC9.fr, hC9.get 0 rfl, ⟨aa, ab⟩⟩

theorem mad_n (A : Option Addr) (c n : Nat) (xs : List Int) (hn : xs.length = n) (p : Nat) (sw : Int) (lo hi : Nat) (a : Nat) (w : World) (hr : Rd w 1 (Go.Tw.encI .u32) A xs) (hlen : n ≤ 1099511627776) (hp : w.heap[p]? = some (.cells #[.int .i64 sw] 3 (0, 0))) (hpA : ∀ b off, A = some ⟨b, off, none⟩ → b ≠ p) (hhi : hi ≤ n) (ha0 : lo + 1 ≤ a) (ha1 : a + 1 < hi) : Calls Try.prog 93 #[.slice A n c, .int .i64 (a : Int), .pointer (some ⟨p, 0, none⟩)] w fun e w' => ∃ (x : Nat) (sw' : Int), e = .returned (.int .i64 (x : Int)) ∧ Fr w w' [p] ∧ w'.heap[p]? = some (.cells #[.int .i64 sw'] 3 (0, 0)) ∧ (lo ≤ x ∧ x < hi) := by subst hn; exact mad_ct A c xs p sw lo hi a w hr hlen hp hpA hhi ha0 ha1
set_option maxHeartbeats 1000000 in
theorem piv_ct (A : Option Addr) (c : Nat) (xs : List Int) (a b : Nat)  (w : World) (hr : Rd w 1 (Go.Tw.encI .u32) A xs) (hlen : xs.length ≤ 1099511627776) (hbA : ∀ b off, A = some ⟨b, off, none⟩ → b < w.heap.size) (hab : a < b) (hb : b ≤ xs.length) : Calls Try.prog 73 #[.slice A xs.length c, .int .i64 (a : Int), .int .i64 (b : Int)] w fun e w' => ∃ (q : Nat) (h : Int), e = .returned (.tuple #[.int .i64 (q : Int), .int .i64 h]) ∧ Fr w w' [] ∧ a ≤ q ∧ q < b := by
 refine enterD (n := 57) Try.func73 rfl rfl (Nat.le_of_ble_eq_true rfl) ?_
 intro Q0 hN hret hret'
 have hC := Cx.start w
 refine WCs (fun K1 hK2 => ?_)
 refine WCg (WLq 2 [(7, .int .i64 0), (6, .int .i64 0)] (WLd rfl (QXn (hK2 _ _ ?_))))
 refine WCs (fun K3 hK4 => ?_)
 refine WCg (WLq 3 [(15, .int .i64 (IntKind.i64.wrap ((b : Int) - (a : Int)))), (14, .int .i64 (a : Int)), (13, .int .i64 (b : Int))] ?_)
 refine WLt (show (.int .i64 (IntKind.i64.wrap ((b : Int) - (a : Int))) : Value) = .int .i64 ((b - a : Nat) : Int) from by rw [wrap_in_i64 _ (by omega) (by omega)] <;> first | rfl | (congr 1; done) | (congr 1; omega)) ?_
 refine WLq 1 [(8, .int .i64 ((b - a : Nat) : Int))] (WLd rfl (QXn (hK4 _ _ ?_)))
 refine WCs (fun K5 hK6 => ?_)
 refine WCg ?_
 refine WL.newM hC (fun b => .pointer (some ⟨b, 0, none⟩)) (.cells #[.int .i64 0] 3) 9 (fun _ => by kernel_rfl) (fun g7 w8 aP hF9 aa => ?_)
 refine WLd rfl (QXn (hK6 _ _ ?_))
 refine WCs (fun a7 al => ?_)
 refine WCg (WLq 3 [(18, .int .i64 (IntKind.i64.wrap (Int.tdiv ((b - a : Nat) : Int) 4))), (17, .int .i64 ((b - a : Nat) : Int)), (16, .int .i64 (a : Int))] ?_)
 refine WLt (show (.int .i64 (IntKind.i64.wrap (Int.tdiv ((b - a : Nat) : Int) 4)) : Value) = .int .i64 (((b - a) / 4 : Nat) : Int) from by rw [Int.tdiv_eq_ediv_of_nonneg (by omega), wrap_in_i64 _ (by omega) (by omega)] <;> first | rfl | (congr 1; done) | (congr 1; omega)) ?_
 refine WLq 1 [(19, .int .i64 (IntKind.i64.wrap ((((b - a) / 4 : Nat) : Int) * 1)))] ?_
 refine WLt (show (.int .i64 (IntKind.i64.wrap ((((b - a) / 4 : Nat) : Int) * 1)) : Value) = .int .i64 (((b - a) / 4 * 1 : Nat) : Int) from by rw [wrap_in_i64 _ (by omega) (by omega)] <;> first | rfl | (congr 1; done) | (congr 1; omega)) ?_
 refine WLq 1 [(20, .int .i64 (IntKind.i64.wrap ((a : Int) + (((b - a) / 4 * 1 : Nat) : Int))))] ?_
 refine WLt (show (.int .i64 (IntKind.i64.wrap ((a : Int) + (((b - a) / 4 * 1 : Nat) : Int))) : Value) = .int .i64 ((a + (b - a) / 4 * 1 : Nat) : Int) from by rw [wrap_in_i64 _ (by omega) (by omega)] <;> first | rfl | (congr 1; done) | (congr 1; omega)) ?_
 refine WLq 1 [(10, .int .i64 ((a + (b - a) / 4 * 1 : Nat) : Int))] (WLd rfl (QXn (al _ _ ?_)))
 refine WCs (fun a8 am => ?_)
 refine WCg (WLq 3 [(23, .int .i64 (IntKind.i64.wrap (Int.tdiv ((b - a : Nat) : Int) 4))), (22, .int .i64 ((b - a : Nat) : Int)), (21, .int .i64 (a : Int))] ?_)
 refine WLt (show (.int .i64 (IntKind.i64.wrap (Int.tdiv ((b - a : Nat) : Int) 4)) : Value) = .int .i64 (((b - a) / 4 : Nat) : Int) from by rw [Int.tdiv_eq_ediv_of_nonneg (by omega), wrap_in_i64 _ (by omega) (by omega)] <;> first | rfl | (congr 1; done) | (congr 1; omega)) ?_
 refine WLq 1 [(24, .int .i64 (IntKind.i64.wrap ((((b - a) / 4 : Nat) : Int) * 2)))] ?_
 refine WLt (show (.int .i64 (IntKind.i64.wrap ((((b - a) / 4 : Nat) : Int) * 2)) : Value) = .int .i64 (((b - a) / 4 * 2 : Nat) : Int) from by rw [wrap_in_i64 _ (by omega) (by omega)] <;> first | rfl | (congr 1; done) | (congr 1; omega)) ?_
 refine WLq 1 [(25, .int .i64 (IntKind.i64.wrap ((a : Int) + (((b - a) / 4 * 2 : Nat) : Int))))] ?_
 refine WLt (show (.int .i64 (IntKind.i64.wrap ((a : Int) + (((b - a) / 4 * 2 : Nat) : Int))) : Value) = .int .i64 ((a + (b - a) / 4 * 2 : Nat) : Int) from by rw [wrap_in_i64 _ (by omega) (by omega)] <;> first | rfl | (congr 1; done) | (congr 1; omega)) ?_
 refine WLq 1 [(11, .int .i64 ((a + (b - a) / 4 * 2 : Nat) : Int))] (WLd rfl (QXn (am _ _ ?_)))
 refine WCs (fun a9 an => ?_)
 refine WCg (WLq 3 [(28, .int .i64 (IntKind.i64.wrap (Int.tdiv ((b - a : Nat) : Int) 4))), (27, .int .i64 ((b - a : Nat) : Int)), (26, .int .i64 (a : Int))] ?_)
 refine WLt (show (.int .i64 (IntKind.i64.wrap (Int.tdiv ((b - a : Nat) : Int) 4)) : Value) = .int .i64 (((b - a) / 4 : Nat) : Int) from by rw [Int.tdiv_eq_ediv_of_nonneg (by omega), wrap_in_i64 _ (by omega) (by omega)] <;> first | rfl | (congr 1; done) | (congr 1; omega)) ?_
 refine WLq 1 [(29, .int .i64 (IntKind.i64.wrap ((((b - a) / 4 : Nat) : Int) * 3)))] ?_
 refine WLt (show (.int .i64 (IntKind.i64.wrap ((((b - a) / 4 : Nat) : Int) * 3)) : Value) = .int .i64 (((b - a) / 4 * 3 : Nat) : Int) from by rw [wrap_in_i64 _ (by omega) (by omega)] <;> first | rfl | (congr 1; done) | (congr 1; omega)) ?_
 refine WLq 1 [(30, .int .i64 (IntKind.i64.wrap ((a : Int) + (((b - a) / 4 * 3 : Nat) : Int))))] ?_
 refine WLt (show (.int .i64 (IntKind.i64.wrap ((a : Int) + (((b - a) / 4 * 3 : Nat) : Int))) : Value) = .int .i64 ((a + (b - a) / 4 * 3 : Nat) : Int) from by rw [wrap_in_i64 _ (by omega) (by omega)] <;> first | rfl | (congr 1; done) | (congr 1; omega)) ?_
 refine WLq 1 [(12, .int .i64 ((a + (b - a) / 4 * 3 : Nat) : Int))] (WLd rfl (QXn (an _ _ ?_)))
 refine WC.seqI (fun E_ w_ => ∃ (y : Nat) (sw2 : Int), E_ = [(0, .slice A xs.length c), (1, .int .i64 (a : Int)), (2, .int .i64 (b : Int)), (9, .pointer (some ⟨g7, 0, none⟩)), (11, .int .i64 (y : Int))] ∧ Cx w [] w_ [(g7, .cells #[.int .i64 sw2] 3)] [] ∧ (a ≤ y ∧ y < b)) (fun ba af => ?_) ?_
 ·
  refine WCs (fun bb ao => ?_)
  refine WCg (WLq 2 [(32, .bool (decide (((b - a : Nat) : Int) ≥ 8))), (31, .int .i64 ((b - a : Nat) : Int))] (WLd rfl (QXn (ao _ _ ?_))))
  refine WCa 32 (decide (((b - a : Nat) : Int) ≥ 8)) rfl (fun ag => ?_) (fun ag => ?_)
  ·
   have aQ : (8 : Int) ≤ ((b - a : Nat) : Int) := by have q_ := of_decide_eq_true ag; omega
   refine WCt rfl ?_
   refine WCs (fun bc ak => ?_)
   refine WCs (fun bd ap => ?_)
   refine WCg (WLq 2 [(34, .bool (decide (((b - a : Nat) : Int) ≥ 50))), (33, .int .i64 ((b - a : Nat) : Int))] (WLd rfl (QXn (ap _ _ ?_))))
   refine WCa 34 (decide (((b - a : Nat) : Int) ≥ 50)) rfl (fun ah => ?_) (fun ah => ?_)
   ·
    have aR : (50 : Int) ≤ ((b - a : Nat) : Int) := by have q_ := of_decide_eq_true ah; omega
    refine WCt rfl ?_
    refine WCs (fun be aq => ?_)
    refine WCg (WLq 2 [(36, .int .i64 ((a + (b - a) / 4 * 1 : Nat) : Int)), (35, .slice A xs.length c)] ?_)
    refine WLc rfl rfl rfl rfl rfl (by kernel_rfl) (mad_n A c xs.length xs rfl g7 0 a b (a + (b - a) / 4 * 1) w8 (Rd.fr hr aa.fr) hlen (aa.get 0 rfl) (fun b_ off_ e_ h_ => by have h1_ := hbA b_ off_ e_; have h2_ := (aa.new_ge 0 rfl).resolve_left (by simp); omega) hb (by omega) (by omega)) ?_
    rintro _ aS ⟨x38, sw36, rfl, ar, au, ⟨aT, aU⟩⟩
    have ab := aa.callM 0 rfl ar au
    refine ⟨_, rfl, ?_⟩
    refine WLq 1 [(10, .int .i64 (x38 : Int))] (WLd rfl (QXn (aq _ _ ?_)))
    refine WCs (fun bf av => ?_)
    refine WCg (WLq 2 [(39, .int .i64 ((a + (b - a) / 4 * 2 : Nat) : Int)), (38, .slice A xs.length c)] ?_)
    refine WLc rfl rfl rfl rfl rfl (by kernel_rfl) (mad_n A c xs.length xs rfl g7 sw36 a b (a + (b - a) / 4 * 2) aS (Rd.fr hr ab.fr) hlen (ab.get 0 rfl) (fun b_ off_ e_ h_ => by have h1_ := hbA b_ off_ e_; have h2_ := (ab.new_ge 0 rfl).resolve_left (by simp); omega) hb (by omega) (by omega)) ?_
    rintro _ aV ⟨x48, sw46, rfl, aw, ax, ⟨aW, aX⟩⟩
    have ac := ab.callM 0 rfl aw ax
    refine ⟨_, rfl, ?_⟩
    refine WLq 1 [(11, .int .i64 (x48 : Int))] (WLd rfl (QXn (av _ _ ?_)))
    refine WCg (WLq 2 [(42, .int .i64 ((a + (b - a) / 4 * 3 : Nat) : Int)), (41, .slice A xs.length c)] ?_)
    refine WLc rfl rfl rfl rfl rfl (by kernel_rfl) (mad_n A c xs.length xs rfl g7 sw46 a b (a + (b - a) / 4 * 3) aV (Rd.fr hr ac.fr) hlen (ac.get 0 rfl) (fun b_ off_ e_ h_ => by have h1_ := hbA b_ off_ e_; have h2_ := (ac.new_ge 0 rfl).resolve_left (by simp); omega) hb (by omega) (by omega)) ?_
    rintro _ aY ⟨x56, sw54, rfl, ay, az, ⟨aZ, a0⟩⟩
    have ad := ac.callM 0 rfl ay az
    refine ⟨_, rfl, ?_⟩
    refine WLq 1 [(12, .int .i64 (x56 : Int))] (WLd rfl (QXn (ak _ _ ?_)))
    refine WCg (WLq 4 [(47, .int .i64 (x56 : Int)), (46, .int .i64 (x48 : Int)), (45, .int .i64 (x38 : Int)), (44, .slice A xs.length c)] ?_)
    refine WLc rfl rfl rfl rfl rfl (by kernel_rfl) (med_n A c xs.length xs rfl g7 sw54 a b x38 x48 x56 aY (Rd.fr hr ad.fr) hlen (ad.get 0 rfl) (fun b_ off_ e_ h_ => by have h1_ := hbA b_ off_ e_; have h2_ := (ad.new_ge 0 rfl).resolve_left (by simp); omega) hb (by omega) (by omega) (by omega) (by omega) (by omega) (by omega)) ?_
    rintro _ bg ⟨x64, sw62, rfl, aA, aB, ⟨a1, a2⟩⟩
    have aC := ad.callM 0 rfl aA aB
    refine ⟨_, rfl, ?_⟩
    refine WLq 1 [(11, .int .i64 (x64 : Int))] ?_
    refine WLd rfl ?_
    refine QXn ?_
    have aD := aC.pickM [0] [] (by decide) rfl rfl
    exact fun a_ ha_ => af _ _ ⟨x64, sw62, rfl, aD, by omega, by omega⟩ a_ (ha_.weaken (sub_of ⟨rfl, rfl, rfl, rfl, rfl, trivial⟩))
   ·
    have aR : ((b - a : Nat) : Int) < 50 := by have q_ := of_decide_eq_false ah; omega
    refine WCf rfl (WC.skip (QXn (ak _ _ ?_)))
    refine WCg (WLq 4 [(47, .int .i64 ((a + (b - a) / 4 * 3 : Nat) : Int)), (46, .int .i64 ((a + (b - a) / 4 * 2 : Nat) : Int)), (45, .int .i64 ((a + (b - a) / 4 * 1 : Nat) : Int)), (44, .slice A xs.length c)] ?_)
    refine WLc rfl rfl rfl rfl rfl (by kernel_rfl) (med_n A c xs.length xs rfl g7 0 a b (a + (b - a) / 4 * 1) (a + (b - a) / 4 * 2) (a + (b - a) / 4 * 3) w8 (Rd.fr hr aa.fr) hlen (aa.get 0 rfl) (fun b_ off_ e_ h_ => by have h1_ := hbA b_ off_ e_; have h2_ := (aa.new_ge 0 rfl).resolve_left (by simp); omega) hb (by omega) (by omega) (by omega) (by omega) (by omega) (by omega)) ?_
    rintro _ bh ⟨x73, sw71, rfl, aE, aF, ⟨a3, a4⟩⟩
    have aG := aa.callM 0 rfl aE aF
    refine ⟨_, rfl, ?_⟩
    refine WLq 1 [(11, .int .i64 (x73 : Int))] ?_
    refine WLd rfl ?_
    refine QXn ?_
    have aH := aG.pickM [0] [] (by decide) rfl rfl
    exact fun a_ ha_ => af _ _ ⟨x73, sw71, rfl, aH, by omega, by omega⟩ a_ (ha_.weaken (sub_of ⟨rfl, rfl, rfl, rfl, rfl, trivial⟩))
  ·
   have aQ : ((b - a : Nat) : Int) < 8 := by have q_ := of_decide_eq_false ag; omega
   refine WCf rfl (WC.skip ?_)
   refine QXn ?_
   have aI := aa.pickM [0] [] (by decide) rfl rfl
   exact fun a_ ha_ => af _ _ ⟨a + (b - a) / 4 * 2, 0, rfl, aI, by omega, by omega⟩ a_ (ha_.weaken (sub_of ⟨rfl, rfl, rfl, rfl, rfl, trivial⟩))
 rintro E_ bi ⟨y, sw2, rfl, ae, hy0, hy1⟩
 refine WCs (fun bj aJ => ?_)
 refine WCg ?_
 refine WLo 3 (.pointer (some ⟨g7, 0, none⟩)) (.int .i64 sw2) 49 (run_ld (ae.get 0 rfl) rfl) ?_
 refine WLd rfl (QXn (aJ _ _ ?_))
 refine WC.block ?_
 refine WCs (fun bk aK => ?_)
 refine WCg (WLq 2 [(51, .bool (sw2 == 0)), (52, .bool (sw2 == 0))] (WLd rfl (QXn (aK _ _ ?_))))
 refine WCa 51 (sw2 == 0) rfl (fun ai => ?_) (fun ai => ?_)
 ·
  have a5 : sw2 = 0 := by simpa using ai
  refine WCt rfl ?_
  refine WCs (fun bl aL => ?_)
  refine WCg (WLq 3 [(7, .int .i64 1), (6, .int .i64 (y : Int)), (53, .int .i64 (y : Int))] (WLd rfl (QXn (aL _ _ ?_))))
  refine WC.ret ?_
  refine QXk ?_
  refine (hret _ _ _ rfl ?_).1
  exact ⟨y, _, rfl, ae.fr, by omega, by omega⟩
 ·
  have a5 : ¬ (sw2 = 0) := by simpa using ai
  refine WCf rfl ?_
  refine WCs (fun bm aM => ?_)
  refine WCg (WLq 2 [(54, .bool (sw2 == 12)), (55, .bool (sw2 == 12))] (WLd rfl (QXn (aM _ _ ?_))))
  refine WCa 54 (sw2 == 12) rfl (fun aj => ?_) (fun aj => ?_)
  ·
   have a6 : sw2 = 12 := by simpa using aj
   refine WCt rfl ?_
   refine WCs (fun bn aN => ?_)
   refine WCg (WLq 3 [(7, .int .i64 2), (6, .int .i64 (y : Int)), (56, .int .i64 (y : Int))] (WLd rfl (QXn (aN _ _ ?_))))
   refine WC.ret ?_
   refine QXk ?_
   refine (hret _ _ _ rfl ?_).1
   exact ⟨y, _, rfl, ae.fr, by omega, by omega⟩
  ·
   have a6 : ¬ (sw2 = 12) := by simpa using aj
   refine WCf rfl ?_
   refine WCs (fun bo aO => ?_)
   refine WCg (WLq 3 [(7, .int .i64 0), (6, .int .i64 (y : Int)), (50, .int .i64 (y : Int))] (WLd rfl (QXn (aO _ _ ?_))))
   refine WC.ret ?_
   refine QXk ?_
   refine (hret _ _ _ rfl ?_).1
   exact ⟨y, _, rfl, ae.fr, by omega, by omega⟩

theorem piv_n (A : Option Addr) (c n : Nat) (xs : List Int) (hn : xs.length = n) (a b : Nat) (w : World) (hr : Rd w 1 (Go.Tw.encI .u32) A xs) (hlen : n ≤ 1099511627776) (hbA : ∀ b off, A = some ⟨b, off, none⟩ → b < w.heap.size) (hab : a < b) (hb : b ≤ n) : Calls Try.prog 73 #[.slice A n c, .int .i64 (a : Int), .int .i64 (b : Int)] w fun e w' => ∃ (q : Nat) (h : Int), e = .returned (.tuple #[.int .i64 (q : Int), .int .i64 h]) ∧ Fr w w' [] ∧ a ≤ q ∧ q < b := by subst hn; exact piv_ct A c xs a b w hr hlen hbA hab hb
end Go.Proofs.Ytmahghppojbeoaa
