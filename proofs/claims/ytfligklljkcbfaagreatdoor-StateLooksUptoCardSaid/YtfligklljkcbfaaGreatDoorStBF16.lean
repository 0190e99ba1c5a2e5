/- Contracts of functions of the program, each proved by a walk through its code; conditions stand in the statements. -/
import Derived.Test.YtfligklljkcbfaaGreatDoorStA16
import Derived.Shelf.SortM.Walk7aInS
import Derived.Ground.SlgmProg
import Derived.Sort.EveryDepth
import Derived.WalkSmall
import Derived.Test.YtfligklljkcbfaaGreatDoorStBA16
import Derived.Sort.AssemblyPlain
namespace Go.Proofs
set_option linter.unusedSimpArgs false
set_option linter.unusedVariables false
set_option linter.unusedSectionVars false
open Go.RowKit Go.Sort Go.Shelf
shelf_lay_g SlLaysM.n31 Slgm 31 at Tryz 135 as SkKeys.npA
shelf_lay_g SlLaysM.n32 Slgm 32 at Tryz 136 as SkKeys.nxA
shelf_lay_g SlLaysM.n8 Slgm 8 at Tryz 74 as SkKeys.lenA
end Go.Proofs
namespace Go.Proofs.YtfligklljkcbfaaGreatDoor
set_option linter.unusedSimpArgs false
set_option linter.unusedVariables false
set_option linter.unusedSectionVars false
open Go Go.RowKit Go.Tw
theorem Len_ct (x : Int) (w : World) (h0 : 0 ≤ x) (h1 : x ≤ 18446744073709551615) : Calls Tryz.prog 74 #[.int .u64 x] w fun e w' => ∃ r, e = .returned (.int .i64 r) ∧ Fr w w' [] :=
  Calls.mono (Go.calls_of_every_depth fun D => Go.Proofs.AnySM.bits_LenInS (P := Tryz.prog) (ρ := Go.Proofs.SkKeys.lenA_ren) Go.Proofs.SkKeys.lenA D x w h0 h1) fun _ _ ⟨h, h2⟩ => ⟨_, h, h2 ▸ Fr.refl _ _⟩
end Go.Proofs.YtfligklljkcbfaaGreatDoor
namespace Go.Proofs.YtfligklljkcbfaaGreatDoor
set_option linter.unusedSimpArgs false
set_option linter.unusedVariables false
set_option linter.unusedSectionVars false
open Go Go.RowKit Go.Tw
set_option linter.unusedVariables false
set_option maxRecDepth 20000
open Go.Sort
theorem o2_ct (A : Option Addr) (c : Nat) (xs : List Int) (p : Nat) (sw : Int) (lo hi : Nat) (a b : Nat)  (w : World) (hr : Rd w 1 (Go.Tw.encI .u32) A xs) (hlen : xs.length ≤ 1099511627776) (hp : w.heap[p]? = some (.cells #[I6 sw] 3 (0, 0))) (hpA : ∀ b off, A = some ⟨b, off, none⟩ → b ≠ p) (hhi : hi ≤ xs.length) (ha0 : lo ≤ a) (ha1 : a < hi) (hb0 : lo ≤ b) (hb1 : b < hi) : Calls Tryz.prog 158 #[.slice A xs.length c, I6 (a : Int), I6 (b : Int), P0 p 0] w fun e w' => ∃ (x y : Nat) (sw' : Int), e = .returned (.tuple #[I6 (x : Int), I6 (y : Int)]) ∧ Fr w w' [p] ∧ w'.heap[p]? = some (.cells #[I6 sw'] 3 (0, 0)) ∧ (lo ≤ x ∧ x < hi) ∧ (lo ≤ y ∧ y < hi) := by
 refine enterD (n := 28) Tryz.func158 rfl rfl (Nat.le_of_ble_eq_true rfl) ?_
 intro Q0 hN hret hret'
 have hC := Cx.startMs w [(p, .cells #[I6 sw] 3)] (by simp) (by simp [hp])
 refine WCs (fun K1 hK2 => WCg (WLq 2 [(9, I6 0), (8, I6 0)] (WLd rfl (QXn (hK2 _ _ (WCs (fun K3 hK4 => WCs (fun K5 hK6 => WC.drawC hC [] (by kernel_rfl) (fun w7 hF8 hC9 aa => WDx 2 [(0, 10, .slice A xs.length c), (1, 11, I6 (b : Int))] aa ?_)))))))))
 obtain ⟨ag, ah⟩ := get_some (xs := xs) (i := b) (by omega)
 obtain ⟨b13, o15, ac, ai⟩ := hr.at_ _ _ ah
 refine WDi (NPt (NPt hN)) 2 A xs.length c 12 .i64 (b : Int) b13 o15 b 1 (by kernel_rfl) (by kernel_rfl) ac (by omega) (by omega) (o15 + b) (by first | (simp; done) | omega) aa (WDx 2 [(4, 14, .slice A xs.length c), (5, 15, I6 (a : Int))] aa ?_)
 obtain ⟨aj, ak⟩ := get_some (xs := xs) (i := a) (by omega)
 obtain ⟨b19, o21, ad, al⟩ := hr.at_ _ _ ak
 refine WDi (NPt (NPt hN)) 6 A xs.length c 16 .i64 (a : Int) b19 o21 a 1 (by kernel_rfl) (by kernel_rfl) ad (by omega) (by omega) (o21 + a) (by first | (simp; done) | omega) aa (WDm 3 40 (P0 b13 (o15 + b)) (U4 ag) 13 (fun _ hS_ => run_load1 rfl (by simpa [Nat.add_assoc] using Fr.cell hS_ (hC9.fr.cell (ai 0 _ rfl) (by simpa using hpA _ _ ac)) (by simp))) aa (WDm 7 40 (P0 b19 (o21 + a)) (U4 aj) 17 (fun _ hS_ => run_load1 rfl (by simpa [Nat.add_assoc] using Fr.cell hS_ (hC9.fr.cell (al 0 _ rfl) (by simpa using hpA _ _ ad)) (by simp))) aa (WDc 8 (Less_ct ag aj w7) ?_)))
 rintro _ au ⟨rfl, ae⟩
 have am := aa.trans ae (by simp)
 refine ⟨_, rfl, am, ?_⟩
 have ab := hC9.call ae
 refine WDd (QXn (hK6 _ _ (WCa 18 (decide (ag < aj)) rfl (fun an => ?_) (fun an => ?_))))
 ·
  refine WCt rfl (WCs (fun av ao => WCg (WLq 2 [(20, P0 p 0), (19, P0 p 0)] (WLo 3 (P0 p 0) (I6 sw) 21 (run_ld (ab.get 0 rfl) rfl) (WLq 2 [(23, P0 p 0), (22, I6 (IntKind.i64.wrap (sw + 1)))] (WLv (c' := #[I6 (IntKind.i64.wrap (sw + 1))]) ab 0 3 p 0 (I6 (IntKind.i64.wrap (sw + 1))) (fun aw ar af => ?_)))))))
  refine WLd rfl (QXn (ao _ _ (WCs (fun ax ap => WCg (WLz 4 [(9, I6 (a : Int)), (8, I6 (b : Int))] (WLd rfl (QXn (ap _ _ (WC.ret (QXr ?_))))))))))
  refine (hret _ _ _ rfl ?_).1
  exact ⟨b, a, _, rfl, af.fr, af.get 0 rfl, ⟨hb0, hb1⟩, ⟨ha0, ha1⟩⟩
 ·
  refine WCf rfl (WC.skip (QXn (hK4 _ _ (WCs (fun ay aq => WCg (WLz 4 [(9, I6 (b : Int)), (8, I6 (a : Int))] (WLd rfl (QXn (aq _ _ (WC.ret ?_))))))))))
  refine (hret _ _ _ rfl ?_).1
  exact ⟨a, b, _, rfl, ab.fr, ab.get 0 rfl, ⟨ha0, ha1⟩, ⟨hb0, hb1⟩⟩

theorem o2_n (A : Option Addr) (c n : Nat) (xs : List Int) (hn : xs.length = n) (p : Nat) (sw : Int) (lo hi : Nat) (a b : Nat) (w : World) (hr : Rd w 1 (Go.Tw.encI .u32) A xs) (hlen : n ≤ 1099511627776) (hp : w.heap[p]? = some (.cells #[.int .i64 sw] 3 (0, 0))) (hpA : ∀ b off, A = some ⟨b, off, none⟩ → b ≠ p) (hhi : hi ≤ n) (ha0 : lo ≤ a) (ha1 : a < hi) (hb0 : lo ≤ b) (hb1 : b < hi) : Calls Tryz.prog 158 #[.slice A n c, .int .i64 (a : Int), .int .i64 (b : Int), .pointer (some ⟨p, 0, none⟩)] w fun e w' => ∃ (x y : Nat) (sw' : Int), e = .returned (.tuple #[.int .i64 (x : Int), .int .i64 (y : Int)]) ∧ Fr w w' [p] ∧ w'.heap[p]? = some (.cells #[.int .i64 sw'] 3 (0, 0)) ∧ (lo ≤ x ∧ x < hi) ∧ (lo ≤ y ∧ y < hi) := by subst hn; exact o2_ct A c xs p sw lo hi a b w hr hlen hp hpA hhi ha0 ha1 hb0 hb1
theorem med_ct (A : Option Addr) (c : Nat) (xs : List Int) (p : Nat) (sw : Int) (lo hi : Nat) (a b d : Nat)  (w : World) (hr : Rd w 1 (Go.Tw.encI .u32) A xs) (hlen : xs.length ≤ 1099511627776) (hp : w.heap[p]? = some (.cells #[I6 sw] 3 (0, 0))) (hpA : ∀ b off, A = some ⟨b, off, none⟩ → b ≠ p) (hhi : hi ≤ xs.length) (ha0 : lo ≤ a) (ha1 : a < hi) (hb0 : lo ≤ b) (hb1 : b < hi) (hd0 : lo ≤ d) (hd1 : d < hi) : Calls Tryz.prog 138 #[.slice A xs.length c, I6 (a : Int), I6 (b : Int), I6 (d : Int), P0 p 0] w fun e w' => ∃ (x : Nat) (sw' : Int), e = .returned (I6 (x : Int)) ∧ Fr w w' [p] ∧ w'.heap[p]? = some (.cells #[I6 sw'] 3 (0, 0)) ∧ (lo ≤ x ∧ x < hi) := by
 refine enterD (n := 36) Tryz.func138 rfl rfl (Nat.le_of_ble_eq_true rfl) ?_
 intro Q0 hN hret hret'
 have hC := Cx.startMs w [(p, .cells #[I6 sw] 3)] (by simp) (by simp [hp])
 refine WCs (fun K1 hK2 => WCg (WLq 1 [(10, I6 0)] (WLd rfl (QXn (hK2 _ _ (WCs (fun K3 hK4 => WCg (WLq 4 [(15, P0 p 0), (14, I6 (b : Int)), (13, I6 (a : Int)), (12, .slice A xs.length c)] (WLk (o2_n A c xs.length xs rfl p sw lo hi a b w (Rd.frN hr hC.fr (fun b_ off_ e_ => by simpa using hpA b_ off_ e_)) hlen (hC.get 0 rfl) hpA hhi (by omega) (by omega) (by omega) (by omega)) ?_)))))))))
 rintro _ w5 ⟨x10, x11, sw8, rfl, hF6, hp7, ⟨al, am⟩, ⟨an, ao⟩⟩
 have hC9 := hC.callM 0 rfl hF6 hp7
 refine ⟨_, rfl, ?_⟩
 refine WLz 5 [(2, I6 (x11 : Int)), (1, I6 (x10 : Int))] (WLd rfl (QXn (hK4 _ _ (WCs (fun ay ac => WCg (WLq 4 [(23, P0 p 0), (22, I6 (d : Int)), (21, I6 (x11 : Int)), (20, .slice A xs.length c)] (WLk (o2_n A c xs.length xs rfl p sw8 lo hi x11 d w5 (Rd.frN hr hC9.fr (fun b_ off_ e_ => by simpa using hpA b_ off_ e_)) hlen (hC9.get 0 rfl) hpA hhi (by omega) (by omega) (by omega) (by omega)) ?_)))))))
 rintro _ ap ⟨x23, x24, sw21, rfl, ad, ae, ⟨aq, ar⟩, ⟨au, av⟩⟩
 have aa := hC9.callM 0 rfl ad ae
 refine ⟨_, rfl, ?_⟩
 refine WLz 5 [(3, I6 (x24 : Int)), (2, I6 (x23 : Int))] (WLd rfl (QXn (ac _ _ (WCs (fun az af => WCg (WLq 4 [(31, P0 p 0), (30, I6 (x23 : Int)), (29, I6 (x10 : Int)), (28, .slice A xs.length c)] (WLk (o2_n A c xs.length xs rfl p sw21 lo hi x10 x23 ap (Rd.frN hr aa.fr (fun b_ off_ e_ => by simpa using hpA b_ off_ e_)) hlen (aa.get 0 rfl) hpA hhi (by omega) (by omega) (by omega) (by omega)) ?_)))))))
 rintro _ aA ⟨x36, x37, sw34, rfl, ag, ah, ⟨aw, ax⟩, ⟨ai, aj⟩⟩
 have ab := aa.callM 0 rfl ag ah
 refine ⟨_, rfl, ?_⟩
 refine WLz 5 [(2, I6 (x37 : Int)), (1, I6 (x36 : Int))] (WLd rfl (QXn (af _ _ (WCs (fun aB ak => WCg (WLz 2 [(10, I6 (x37 : Int))] (WLd rfl (QXn (ak _ _ (WC.ret ?_))))))))))
 refine (hret _ _ _ rfl ?_).1
 exact ⟨x37, _, rfl, ab.fr, ab.get 0 rfl, ⟨ai, aj⟩⟩

theorem med_n (A : Option Addr) (c n : Nat) (xs : List Int) (hn : xs.length = n) (p : Nat) (sw : Int) (lo hi : Nat) (a b d : Nat) (w : World) (hr : Rd w 1 (Go.Tw.encI .u32) A xs) (hlen : n ≤ 1099511627776) (hp : w.heap[p]? = some (.cells #[.int .i64 sw] 3 (0, 0))) (hpA : ∀ b off, A = some ⟨b, off, none⟩ → b ≠ p) (hhi : hi ≤ n) (ha0 : lo ≤ a) (ha1 : a < hi) (hb0 : lo ≤ b) (hb1 : b < hi) (hd0 : lo ≤ d) (hd1 : d < hi) : Calls Tryz.prog 138 #[.slice A n c, .int .i64 (a : Int), .int .i64 (b : Int), .int .i64 (d : Int), .pointer (some ⟨p, 0, none⟩)] w fun e w' => ∃ (x : Nat) (sw' : Int), e = .returned (.int .i64 (x : Int)) ∧ Fr w w' [p] ∧ w'.heap[p]? = some (.cells #[.int .i64 sw'] 3 (0, 0)) ∧ (lo ≤ x ∧ x < hi) := by subst hn; exact med_ct A c xs p sw lo hi a b d w hr hlen hp hpA hhi ha0 ha1 hb0 hb1 hd0 hd1
theorem mad_ct (A : Option Addr) (c : Nat) (xs : List Int) (p : Nat) (sw : Int) (lo hi : Nat) (a : Nat)  (w : World) (hr : Rd w 1 (Go.Tw.encI .u32) A xs) (hlen : xs.length ≤ 1099511627776) (hp : w.heap[p]? = some (.cells #[I6 sw] 3 (0, 0))) (hpA : ∀ b off, A = some ⟨b, off, none⟩ → b ≠ p) (hhi : hi ≤ xs.length) (ha0 : lo + 1 ≤ a) (ha1 : a + 1 < hi) : Calls Tryz.prog 137 #[.slice A xs.length c, I6 (a : Int), P0 p 0] w fun e w' => ∃ (x : Nat) (sw' : Int), e = .returned (I6 (x : Int)) ∧ Fr w w' [p] ∧ w'.heap[p]? = some (.cells #[I6 sw'] 3 (0, 0)) ∧ (lo ≤ x ∧ x < hi) := by
 refine enterD (n := 15) Tryz.func137 rfl rfl (Nat.le_of_ble_eq_true rfl) ?_
 intro Q0 hN hret hret'
 have hC := Cx.startMs w [(p, .cells #[I6 sw] 3)] (by simp) (by simp [hp])
 refine WCs (fun K1 hK2 => WCg (WLq 1 [(6, I6 0)] (WLd rfl (QXn (hK2 _ _ (WCs (fun K3 hK4 => WCg (WLz 3 [(9, I6 (IntKind.i64.wrap ((a : Int) - 1))), (7, .slice A xs.length c)] (WLt (show (I6 (IntKind.i64.wrap ((a : Int) - 1)) : Value) = I6 ((a - 1 : Nat) : Int) from by rw [wrap_in_i64 _ (by omega) (by omega)] <;> first | rfl | (congr 1; done) | (congr 1; omega)) ?_)))))))))
 refine WLz 3 [(12, I6 (IntKind.i64.wrap ((a : Int) + 1))), (10, I6 (a : Int))] (WLt (show (I6 (IntKind.i64.wrap ((a : Int) + 1)) : Value) = I6 ((a + 1 : Nat) : Int) from by rw [wrap_in_i64 _ (by omega) (by omega)] <;> first | rfl | (congr 1; done) | (congr 1; omega)) (WLq 1 [(13, P0 p 0)] (WLk (med_n A c xs.length xs rfl p sw lo hi (a - 1) a (a + 1) w (Rd.frN hr hC.fr (fun b_ off_ e_ => by simpa using hpA b_ off_ e_)) hlen (hC.get 0 rfl) hpA hhi (by omega) (by omega) (by omega) (by omega) (by omega) (by omega)) ?_)))
 rintro _ w5 ⟨x10, sw8, rfl, hF6, hp7, ⟨aa, ab⟩⟩
 have hC9 := hC.callM 0 rfl hF6 hp7
 refine ⟨_, rfl, ?_⟩
 refine WLq 1 [(6, I6 (x10 : Int))] (WLd rfl (QXn (hK4 _ _ (WC.ret ?_))))
 refine (hret _ _ _ rfl ?_).1
 exact ⟨x10, _, rfl, hC9.fr, hC9.get 0 rfl, ⟨aa, ab⟩⟩

theorem mad_n (A : Option Addr) (c n : Nat) (xs : List Int) (hn : xs.length = n) (p : Nat) (sw : Int) (lo hi : Nat) (a : Nat) (w : World) (hr : Rd w 1 (Go.Tw.encI .u32) A xs) (hlen : n ≤ 1099511627776) (hp : w.heap[p]? = some (.cells #[.int .i64 sw] 3 (0, 0))) (hpA : ∀ b off, A = some ⟨b, off, none⟩ → b ≠ p) (hhi : hi ≤ n) (ha0 : lo + 1 ≤ a) (ha1 : a + 1 < hi) : Calls Tryz.prog 137 #[.slice A n c, .int .i64 (a : Int), .pointer (some ⟨p, 0, none⟩)] w fun e w' => ∃ (x : Nat) (sw' : Int), e = .returned (.int .i64 (x : Int)) ∧ Fr w w' [p] ∧ w'.heap[p]? = some (.cells #[.int .i64 sw'] 3 (0, 0)) ∧ (lo ≤ x ∧ x < hi) := by subst hn; exact mad_ct A c xs p sw lo hi a w hr hlen hp hpA hhi ha0 ha1
set_option maxHeartbeats 1000000 in
theorem piv_ct (A : Option Addr) (c : Nat) (xs : List Int) (a b : Nat)  (w : World) (hr : Rd w 1 (Go.Tw.encI .u32) A xs) (hlen : xs.length ≤ 1099511627776) (hbA : ∀ b off, A = some ⟨b, off, none⟩ → b < w.heap.size) (hab : a < b) (hb : b ≤ xs.length) : Calls Tryz.prog 100 #[.slice A xs.length c, I6 (a : Int), I6 (b : Int)] w fun e w' => ∃ (q : Nat) (h : Int), e = .returned (.tuple #[I6 (q : Int), I6 h]) ∧ Fr w w' [] ∧ a ≤ q ∧ q < b := by
 refine enterD (n := 57) Tryz.func100 rfl rfl (Nat.le_of_ble_eq_true rfl) ?_
 intro Q0 hN hret hret'
 have hC := Cx.start w
 refine WCs (fun K1 hK2 => WCg (WLq 2 [(7, I6 0), (6, I6 0)] (WLd rfl (QXn (hK2 _ _ (WCs (fun K3 hK4 => WCg (WLz 3 [(15, I6 (IntKind.i64.wrap ((b : Int) - (a : Int))))] (WLt (show (I6 (IntKind.i64.wrap ((b : Int) - (a : Int))) : Value) = I6 ((b - a : Nat) : Int) from by rw [wrap_in_i64 _ (by omega) (by omega)] <;> first | rfl | (congr 1; done) | (congr 1; omega)) ?_)))))))))
 refine WLq 1 [(8, I6 ((b - a : Nat) : Int))] (WLd rfl (QXn (hK4 _ _ (WCs (fun K5 hK6 => WCg (WLb hC (.cells #[I6 0] 3) 9 (fun g7 w8 aP hF9 aa => WLd rfl (QXn (hK6 _ _ (WCs (fun a7 al => ?_)))))))))))
 refine WCg (WLz 3 [(18, I6 (IntKind.i64.wrap (Int.tdiv ((b - a : Nat) : Int) 4))), (16, I6 (a : Int))] (WLt (show (I6 (IntKind.i64.wrap (Int.tdiv ((b - a : Nat) : Int) 4)) : Value) = I6 (((b - a) / 4 : Nat) : Int) from by rw [Int.tdiv_eq_ediv_of_nonneg (by omega), wrap_in_i64 _ (by omega) (by omega)] <;> first | rfl | (congr 1; done) | (congr 1; omega)) (WLq 1 [(19, I6 (IntKind.i64.wrap ((((b - a) / 4 : Nat) : Int) * 1)))] (WLt (show (I6 (IntKind.i64.wrap ((((b - a) / 4 : Nat) : Int) * 1)) : Value) = I6 (((b - a) / 4 * 1 : Nat) : Int) from by rw [wrap_in_i64 _ (by omega) (by omega)] <;> first | rfl | (congr 1; done) | (congr 1; omega)) (WLq 1 [(20, I6 (IntKind.i64.wrap ((a : Int) + (((b - a) / 4 * 1 : Nat) : Int))))] ?_)))))
 refine WLt (show (I6 (IntKind.i64.wrap ((a : Int) + (((b - a) / 4 * 1 : Nat) : Int))) : Value) = I6 ((a + (b - a) / 4 * 1 : Nat) : Int) from by rw [wrap_in_i64 _ (by omega) (by omega)] <;> first | rfl | (congr 1; done) | (congr 1; omega)) (WLq 1 [(10, I6 ((a + (b - a) / 4 * 1 : Nat) : Int))] (WLd rfl (QXn (al _ _ (WCs (fun a8 am => WCg (WLz 3 [(23, I6 (IntKind.i64.wrap (Int.tdiv ((b - a : Nat) : Int) 4))), (21, I6 (a : Int))] (WLt (show (I6 (IntKind.i64.wrap (Int.tdiv ((b - a : Nat) : Int) 4)) : Value) = I6 (((b - a) / 4 : Nat) : Int) from by rw [Int.tdiv_eq_ediv_of_nonneg (by omega), wrap_in_i64 _ (by omega) (by omega)] <;> first | rfl | (congr 1; done) | (congr 1; omega)) ?_))))))))
 refine WLq 1 [(24, I6 (IntKind.i64.wrap ((((b - a) / 4 : Nat) : Int) * 2)))] (WLt (show (I6 (IntKind.i64.wrap ((((b - a) / 4 : Nat) : Int) * 2)) : Value) = I6 (((b - a) / 4 * 2 : Nat) : Int) from by rw [wrap_in_i64 _ (by omega) (by omega)] <;> first | rfl | (congr 1; done) | (congr 1; omega)) (WLq 1 [(25, I6 (IntKind.i64.wrap ((a : Int) + (((b - a) / 4 * 2 : Nat) : Int))))] (WLt (show (I6 (IntKind.i64.wrap ((a : Int) + (((b - a) / 4 * 2 : Nat) : Int))) : Value) = I6 ((a + (b - a) / 4 * 2 : Nat) : Int) from by rw [wrap_in_i64 _ (by omega) (by omega)] <;> first | rfl | (congr 1; done) | (congr 1; omega)) (WLq 1 [(11, I6 ((a + (b - a) / 4 * 2 : Nat) : Int))] (WLd rfl (QXn (am _ _ (WCs (fun a9 an => ?_)))))))))
 refine WCg (WLz 3 [(28, I6 (IntKind.i64.wrap (Int.tdiv ((b - a : Nat) : Int) 4))), (26, I6 (a : Int))] (WLt (show (I6 (IntKind.i64.wrap (Int.tdiv ((b - a : Nat) : Int) 4)) : Value) = I6 (((b - a) / 4 : Nat) : Int) from by rw [Int.tdiv_eq_ediv_of_nonneg (by omega), wrap_in_i64 _ (by omega) (by omega)] <;> first | rfl | (congr 1; done) | (congr 1; omega)) (WLq 1 [(29, I6 (IntKind.i64.wrap ((((b - a) / 4 : Nat) : Int) * 3)))] (WLt (show (I6 (IntKind.i64.wrap ((((b - a) / 4 : Nat) : Int) * 3)) : Value) = I6 (((b - a) / 4 * 3 : Nat) : Int) from by rw [wrap_in_i64 _ (by omega) (by omega)] <;> first | rfl | (congr 1; done) | (congr 1; omega)) (WLq 1 [(30, I6 (IntKind.i64.wrap ((a : Int) + (((b - a) / 4 * 3 : Nat) : Int))))] ?_)))))
 refine WLt (show (I6 (IntKind.i64.wrap ((a : Int) + (((b - a) / 4 * 3 : Nat) : Int))) : Value) = I6 ((a + (b - a) / 4 * 3 : Nat) : Int) from by rw [wrap_in_i64 _ (by omega) (by omega)] <;> first | rfl | (congr 1; done) | (congr 1; omega)) (WLq 1 [(12, I6 ((a + (b - a) / 4 * 3 : Nat) : Int))] (WLd rfl (QXn (an _ _ (WC.seqI (fun E_ w_ => ∃ (y : Nat) (sw2 : Int), E_ = [(0, .slice A xs.length c), (1, I6 (a : Int)), (2, I6 (b : Int)), (9, P0 g7 0), (11, I6 (y : Int))] ∧ Cx w [] w_ [(g7, .cells #[I6 sw2] 3)] [] ∧ (a ≤ y ∧ y < b)) (fun ba af => ?_) ?_)))))
 ·
  refine WCs (fun bb ao => WCg (WLz 2 [(32, .bool (decide (((b - a : Nat) : Int) ≥ 8)))] (WLd rfl (QXn (ao _ _ (WCa 32 (decide (((b - a : Nat) : Int) ≥ 8)) rfl (fun ag => ?_) (fun ag => ?_)))))))
  ·
   have aQ : (8 : Int) ≤ ((b - a : Nat) : Int) := by have q_ := of_decide_eq_true ag; omega
   refine WCt rfl (WCs (fun bc ak => WCs (fun bd ap => WCg (WLz 2 [(34, .bool (decide (((b - a : Nat) : Int) ≥ 50)))] (WLd rfl (QXn (ap _ _ (WCa 34 (decide (((b - a : Nat) : Int) ≥ 50)) rfl (fun ah => ?_) (fun ah => ?_)))))))))
   ·
    have aR : (50 : Int) ≤ ((b - a : Nat) : Int) := by have q_ := of_decide_eq_true ah; omega
    refine WCt rfl (WCs (fun be aq => WCg (WLq 2 [(36, I6 ((a + (b - a) / 4 * 1 : Nat) : Int)), (35, .slice A xs.length c)] (WLk (mad_n A c xs.length xs rfl g7 0 a b (a + (b - a) / 4 * 1) w8 (Rd.fr hr aa.fr) hlen (aa.get 0 rfl) (fun b_ off_ e_ h_ => by have h1_ := hbA b_ off_ e_; have h2_ := (aa.new_ge 0 rfl).resolve_left (by simp); omega) hb (by omega) (by omega)) ?_))))
    rintro _ aS ⟨x38, sw36, rfl, ar, au, ⟨aT, aU⟩⟩
    have ab := aa.callM 0 rfl ar au
    refine ⟨_, rfl, ?_⟩
    refine WLq 1 [(10, I6 (x38 : Int))] (WLd rfl (QXn (aq _ _ (WCs (fun bf av => WCg (WLq 2 [(39, I6 ((a + (b - a) / 4 * 2 : Nat) : Int)), (38, .slice A xs.length c)] (WLk (mad_n A c xs.length xs rfl g7 sw36 a b (a + (b - a) / 4 * 2) aS (Rd.fr hr ab.fr) hlen (ab.get 0 rfl) (fun b_ off_ e_ h_ => by have h1_ := hbA b_ off_ e_; have h2_ := (ab.new_ge 0 rfl).resolve_left (by simp); omega) hb (by omega) (by omega)) ?_)))))))
    rintro _ aV ⟨x48, sw46, rfl, aw, ax, ⟨aW, aX⟩⟩
    have ac := ab.callM 0 rfl aw ax
    refine ⟨_, rfl, ?_⟩
    refine WLq 1 [(11, I6 (x48 : Int))] (WLd rfl (QXn (av _ _ (WCg (WLq 2 [(42, I6 ((a + (b - a) / 4 * 3 : Nat) : Int)), (41, .slice A xs.length c)] (WLk (mad_n A c xs.length xs rfl g7 sw46 a b (a + (b - a) / 4 * 3) aV (Rd.fr hr ac.fr) hlen (ac.get 0 rfl) (fun b_ off_ e_ h_ => by have h1_ := hbA b_ off_ e_; have h2_ := (ac.new_ge 0 rfl).resolve_left (by simp); omega) hb (by omega) (by omega)) ?_))))))
    rintro _ aY ⟨x56, sw54, rfl, ay, az, ⟨aZ, a0⟩⟩
    have ad := ac.callM 0 rfl ay az
    refine ⟨_, rfl, ?_⟩
    refine WLq 1 [(12, I6 (x56 : Int))] (WLd rfl (QXn (ak _ _ (WCg (WLq 4 [(47, I6 (x56 : Int)), (46, I6 (x48 : Int)), (45, I6 (x38 : Int)), (44, .slice A xs.length c)] (WLk (med_n A c xs.length xs rfl g7 sw54 a b x38 x48 x56 aY (Rd.fr hr ad.fr) hlen (ad.get 0 rfl) (fun b_ off_ e_ h_ => by have h1_ := hbA b_ off_ e_; have h2_ := (ad.new_ge 0 rfl).resolve_left (by simp); omega) hb (by omega) (by omega) (by omega) (by omega) (by omega) (by omega)) ?_))))))
    rintro _ bg ⟨x64, sw62, rfl, aA, aB, ⟨a1, a2⟩⟩
    have aC := ad.callM 0 rfl aA aB
    refine ⟨_, rfl, ?_⟩
    refine WLq 1 [(11, I6 (x64 : Int))] (WLd rfl (QXn ?_))
    have aD := aC.pickM [0] [] (by decide) rfl rfl
    exact fun a_ ha_ => af _ _ ⟨x64, sw62, rfl, aD, by omega, by omega⟩ a_ (ha_.weaken (sub_of ⟨rfl, rfl, rfl, rfl, rfl, trivial⟩))
   ·
    have aR : ((b - a : Nat) : Int) < 50 := by have q_ := of_decide_eq_false ah; omega
    refine WCf rfl (WC.skip (QXn (ak _ _ (WCg (WLq 4 [(47, I6 ((a + (b - a) / 4 * 3 : Nat) : Int)), (46, I6 ((a + (b - a) / 4 * 2 : Nat) : Int)), (45, I6 ((a + (b - a) / 4 * 1 : Nat) : Int)), (44, .slice A xs.length c)] (WLk (med_n A c xs.length xs rfl g7 0 a b (a + (b - a) / 4 * 1) (a + (b - a) / 4 * 2) (a + (b - a) / 4 * 3) w8 (Rd.fr hr aa.fr) hlen (aa.get 0 rfl) (fun b_ off_ e_ h_ => by have h1_ := hbA b_ off_ e_; have h2_ := (aa.new_ge 0 rfl).resolve_left (by simp); omega) hb (by omega) (by omega) (by omega) (by omega) (by omega) (by omega)) ?_))))))
    rintro _ bh ⟨x73, sw71, rfl, aE, aF, ⟨a3, a4⟩⟩
    have aG := aa.callM 0 rfl aE aF
    refine ⟨_, rfl, ?_⟩
    refine WLq 1 [(11, I6 (x73 : Int))] (WLd rfl (QXn ?_))
    have aH := aG.pickM [0] [] (by decide) rfl rfl
    exact fun a_ ha_ => af _ _ ⟨x73, sw71, rfl, aH, by omega, by omega⟩ a_ (ha_.weaken (sub_of ⟨rfl, rfl, rfl, rfl, rfl, trivial⟩))
  ·
   have aQ : ((b - a : Nat) : Int) < 8 := by have q_ := of_decide_eq_false ag; omega
   refine WCf rfl (WC.skip (QXn ?_))
   have aI := aa.pickM [0] [] (by decide) rfl rfl
   exact fun a_ ha_ => af _ _ ⟨a + (b - a) / 4 * 2, 0, rfl, aI, by omega, by omega⟩ a_ (ha_.weaken (sub_of ⟨rfl, rfl, rfl, rfl, rfl, trivial⟩))
 rintro E_ bi ⟨y, sw2, rfl, ae, hy0, hy1⟩
 refine WCs (fun bj aJ => WCg (WLo 3 (P0 g7 0) (I6 sw2) 49 (run_ld (ae.get 0 rfl) rfl) (WLd rfl (QXn (aJ _ _ (WC.block (WCs (fun bk aK => ?_))))))))
 refine WCg (WLz 2 [(51, .bool (sw2 == 0))] (WLd rfl (QXn (aK _ _ (WCa 51 (sw2 == 0) rfl (fun ai => ?_) (fun ai => ?_))))))
 ·
  have a5 : sw2 = 0 := by simpa using ai
  refine WCt rfl (WCs (fun bl aL => WCg (WLz 3 [(7, I6 1), (6, I6 (y : Int))] (WLd rfl (QXn (aL _ _ (WC.ret (QXk ?_))))))))
  refine (hret _ _ _ rfl ?_).1
  exact ⟨y, _, rfl, ae.fr, by omega, by omega⟩
 ·
  have a5 : ¬ (sw2 = 0) := by simpa using ai
  refine WCf rfl (WCs (fun bm aM => WCg (WLz 2 [(54, .bool (sw2 == 12))] (WLd rfl (QXn (aM _ _ (WCa 54 (sw2 == 12) rfl (fun aj => ?_) (fun aj => ?_))))))))
  ·
   have a6 : sw2 = 12 := by simpa using aj
   refine WCt rfl (WCs (fun bn aN => WCg (WLz 3 [(7, I6 2), (6, I6 (y : Int))] (WLd rfl (QXn (aN _ _ (WC.ret (QXk ?_))))))))
   refine (hret _ _ _ rfl ?_).1
   exact ⟨y, _, rfl, ae.fr, by omega, by omega⟩
  ·
   have a6 : ¬ (sw2 = 12) := by simpa using aj
   refine WCf rfl (WCs (fun bo aO => WCg (WLz 3 [(7, I6 0), (6, I6 (y : Int))] (WLd rfl (QXn (aO _ _ (WC.ret (QXk ?_))))))))
   refine (hret _ _ _ rfl ?_).1
   exact ⟨y, _, rfl, ae.fr, by omega, by omega⟩

theorem piv_n (A : Option Addr) (c n : Nat) (xs : List Int) (hn : xs.length = n) (a b : Nat) (w : World) (hr : Rd w 1 (Go.Tw.encI .u32) A xs) (hlen : n ≤ 1099511627776) (hbA : ∀ b off, A = some ⟨b, off, none⟩ → b < w.heap.size) (hab : a < b) (hb : b ≤ n) : Calls Tryz.prog 100 #[.slice A n c, .int .i64 (a : Int), .int .i64 (b : Int)] w fun e w' => ∃ (q : Nat) (h : Int), e = .returned (.tuple #[.int .i64 (q : Int), .int .i64 h]) ∧ Fr w w' [] ∧ a ≤ q ∧ q < b := by subst hn; exact piv_ct A c xs a b w hr hlen hbA hab hb
end Go.Proofs.YtfligklljkcbfaaGreatDoor
namespace Go.Proofs.YtfligklljkcbfaaGreatDoor
set_option linter.unusedSimpArgs false
set_option linter.unusedVariables false
set_option linter.unusedSectionVars false
open Go Go.RowKit Go.Tw
set_option linter.unusedVariables false
set_option maxRecDepth 20000
open Go.Sort
theorem and_bd {y m : Int} (h0 : 0 ≤ y) (h1 : y ≤ 18446744073709551615) (m0 : 0 ≤ m) (m1 : m ≤ 18446744073709551615) : ∃ z : Nat, Go.bits .and .u64 y m = (z : Int) ∧ (z : Int) ≤ m := by
  have h := bits_and_u64_nat y.toNat m.toNat (by omega) (by omega)
  rw [Int.toNat_of_nonneg h0, Int.toNat_of_nonneg m0] at h
  refine ⟨_, h, ?_⟩
  have := Nat.and_le_right (n := y.toNat) (m := m.toNat)
  omega
theorem pow2_ct (n : Nat) (hn : n ≤ 1099511627776) (h0 : 0 < n) (w : World) : Calls Tryz.prog 135 #[.int .i64 (n : Int)] w fun e w' => ∃ M : Nat, e = .returned (.int .u64 (M : Int)) ∧ Fr w w' [] ∧ 0 < M ∧ M ≤ 2 * n :=
  Calls.mono (Go.calls_of_every_depth fun D => Go.Proofs.AnySM.nextPowerOfTwoInS (P := Tryz.prog) (ρ := Go.Proofs.SkKeys.npA_ren) Go.Proofs.SkKeys.npA D n (by omega) w) fun _ _ ⟨h, h2⟩ => ⟨_, h, h2 ▸ Fr.refl _ _, by rw [Nat.one_shiftLeft]; exact Nat.two_pow_pos _, by rw [Nat.one_shiftLeft]; exact two_pow_bitsLen_le h0⟩
theorem next_ct (p X : Nat) (hX : X < 18446744073709551616) (w : World) (hp : w.heap[p]? = some (.cells #[.int .u64 (X : Int)] 174 (0, 0))) : Calls Tryz.prog 136 #[.pointer (some ⟨p, 0, none⟩)] w fun e w' => ∃ Y : Nat, e = .returned (.int .u64 (Y : Int)) ∧ Fr w w' [p] ∧ w'.heap[p]? = some (.cells #[.int .u64 (Y : Int)] 174 (0, 0)) ∧ Y < 18446744073709551616 := by
  have hc : w.cell? ⟨p, 0, none⟩ = some (.int .u64 (X : Int)) := by simp [World.cell?, hp]
  have hf : w.frozen? ⟨p, 0, none⟩ = false := by simp [World.frozen?, hp]
  refine Calls.mono (Go.calls_of_every_depth fun D => Go.Proofs.AnySM.xorshift_NextInS (P := Tryz.prog) (ρ := Go.Proofs.SkKeys.nxA_ren) Go.Proofs.SkKeys.nxA D p 0 X hX w hc hf) fun e w' ⟨he, hw⟩ => ?_
  subst hw
  rw [setCell_putRow hp]
  have h1 := putRow_fr (w := w) p (.cells (#[Value.int .u64 (X : Int)].setIfInBounds 0 (.int .u64 (Go.Sort.xorNextN X : Nat))) 174 (0, 0))
  exact ⟨Go.Sort.xorNextN X, he, ⟨h1.os, h1.tape, h1.output, h1.size, h1.block, fun d => Nat.le_trans (h1.drawn d) (Nat.le_add_right _ _)⟩, (putRow_same (lt_of_heap hp)).trans rfl, Go.Sort.xorNextN_lt X hX⟩
set_option maxHeartbeats 1000000 in
theorem brk_ct (A : Option Addr) (c : Nat) (xs : List Int) (a b : Nat)  (w : World) (hown : w.ownsRow 0 40 1 (.slice A xs.length c) xs.length (xs.flatMap (Go.Tw.encI .u32))) (hlen : xs.length ≤ 1099511627776) (hab : a < b) (hb : b ≤ xs.length) : Calls Tryz.prog 99 #[.slice A xs.length c, I6 (a : Int), I6 (b : Int)] w fun e w' => ∃ ys : List Int, e = .returned (.tuple #[]) ∧ Fr w w' (blk (.slice A xs.length c)) ∧ w'.ownsRow 0 40 1 (.slice A xs.length c) xs.length (ys.flatMap (Go.Tw.encI .u32)) ∧ PermIn a b (aOf xs) (aOf ys) := by
 refine enterD (n := 65) Tryz.func99 rfl rfl (Nat.le_of_ble_eq_true rfl) ?_
 intro Q0 hN hret hret'
 have hcc_ := own_le hown
 have hC := Cx.start1 w (own_lt hown)
 have hLs_ := own_count (Go.Tw.encI_len .u32) (by decide) hown
 refine WCs (fun K1 hK2 => WCg (WLz 3 [(13, I6 (IntKind.i64.wrap ((b : Int) - (a : Int))))] (WLt (show (I6 (IntKind.i64.wrap ((b : Int) - (a : Int))) : Value) = I6 ((b - a : Nat) : Int) from by rw [wrap_in_i64 _ (by omega) (by omega)] <;> first | rfl | (congr 1; done) | (congr 1; omega)) (WLq 1 [(6, I6 ((b - a : Nat) : Int))] (WLd rfl (QXn (hK2 _ _ (WCs (fun K3 hK4 => ?_)))))))))
 refine WCg (WLz 2 [(15, .bool (decide (((b - a : Nat) : Int) ≥ 8)))] (WLd rfl (QXn (hK4 _ _ (WCa 15 (decide (((b - a : Nat) : Int) ≥ 8)) rfl (fun t5b => ?_) (fun t5b => ?_))))))
 ·
  have t5 : (8 : Int) ≤ ((b - a : Nat) : Int) := by have q_ := of_decide_eq_true t5b; omega
  refine WCt rfl (WCs (fun K6 hK7 => WCg (WLz 2 [(17, .int .u64 (IntKind.u64.wrap (((b - a : Nat) : Int))))] (WLt (show (.int .u64 (IntKind.u64.wrap (((b - a : Nat) : Int))) : Value) = .int .u64 ((b - a : Nat) : Int) from by rw [wrap_in_u64 _ (by omega) (by omega)]) (WLb hC (.cells #[.int .u64 0] 174) 7 (fun g8 w9 a2 ax am => ?_))))))
  have ay := own_fr hown ax (by simp)
  refine WLv (c' := #[.int .u64 ((b - a : Nat) : Int)]) am 0 174 g8 0 (.int .u64 ((b - a : Nat) : Int)) (fun a3 az aA => ?_)
  have aB := own_fr ay az (am.apartM 0 0 rfl rfl)
  refine WLd rfl (QXn (hK7 _ _ (WCs (fun bc aC => WCg (WLq 1 [(18, I6 ((b - a : Nat) : Int))] (WLk (pow2_ct (b - a) (by omega) (by omega) a3) ?_))))))
  rintro _ bd ⟨M2, rfl, an, hM0_, hM1_⟩
  have aD := aA.call an
  refine ⟨_, rfl, ?_⟩
  have aE := own_fr aB an (by simp)
  refine WLq 1 [(8, .int .u64 (M2 : Int))] (WLd rfl (QXn (aC _ _ (WCs (fun be aF => WCg (WLz 3 [(22, I6 (IntKind.i64.wrap (Int.tdiv ((b - a : Nat) : Int) 4))), (20, I6 (a : Int))] (WLt (show (I6 (IntKind.i64.wrap (Int.tdiv ((b - a : Nat) : Int) 4)) : Value) = I6 (((b - a) / 4 : Nat) : Int) from by rw [Int.tdiv_eq_ediv_of_nonneg (by omega), wrap_in_i64 _ (by omega) (by omega)] <;> first | rfl | (congr 1; done) | (congr 1; omega)) (WLq 1 [(23, I6 (IntKind.i64.wrap ((((b - a) / 4 : Nat) : Int) * 2)))] ?_))))))))
  refine WLt (show (I6 (IntKind.i64.wrap ((((b - a) / 4 : Nat) : Int) * 2)) : Value) = I6 (((b - a) / 4 * 2 : Nat) : Int) from by rw [wrap_in_i64 _ (by omega) (by omega)] <;> first | rfl | (congr 1; done) | (congr 1; omega)) (WLq 1 [(24, I6 (IntKind.i64.wrap ((a : Int) + (((b - a) / 4 * 2 : Nat) : Int))))] (WLt (show (I6 (IntKind.i64.wrap ((a : Int) + (((b - a) / 4 * 2 : Nat) : Int))) : Value) = I6 ((a + (b - a) / 4 * 2 : Nat) : Int) from by rw [wrap_in_i64 _ (by omega) (by omega)] <;> first | rfl | (congr 1; done) | (congr 1; omega)) (WLq 1 [(25, I6 (IntKind.i64.wrap (((a + (b - a) / 4 * 2 : Nat) : Int) - 1)))] (WLt (show (I6 (IntKind.i64.wrap (((a + (b - a) / 4 * 2 : Nat) : Int) - 1)) : Value) = I6 ((a + (b - a) / 4 * 2 - 1 : Nat) : Int) from by rw [wrap_in_i64 _ (by omega) (by omega)] <;> first | rfl | (congr 1; done) | (congr 1; omega)) (WLq 1 [(9, I6 ((a + (b - a) / 4 * 2 - 1 : Nat) : Int))] (WLd rfl (QXn (aF _ _ ?_))))))))
  refine WC.block ?_
  have hl8_ : 8 ≤ b - a := by omega
  refine WC.loop (fun m_ E_ w_ => ∃ (i : Nat) (L : List Int) (y5 : Nat), m_ = a + (b - a) / 4 * 2 + 2 - i ∧ E_ = [(0, .slice A xs.length c), (1, I6 (a : Int)), (2, I6 (b : Int)), (6, I6 ((b - a : Nat) : Int)), (7, P0 g8 0), (8, .int .u64 (M2 : Int)), (9, I6 (i : Int))] ∧ Cx w (blk (.slice A xs.length c)) w_ [(g8, .cells #[.int .u64 (y5 : Int)] 174)] [blk (.slice A xs.length c)] ∧ World.ownsRow w_ 0 40 1 (.slice A xs.length c) xs.length (L.flatMap (Go.Tw.encI .u32)) ∧ (y5 < 18446744073709551616 ∧ (a ≤ i ∧ i ≤ a + (b - a) / 4 * 2 + 2) ∧ L.length = xs.length ∧ PermIn a b (aOf xs) (aOf L))) ⟨_, _, ⟨a + (b - a) / 4 * 2 - 1, xs, (b - a), rfl, rfl, aD, aE, by omega, ⟨by omega, by omega⟩, rfl, permIn_refl _ _ _⟩, sub_of ⟨rfl, rfl, rfl, rfl, rfl, rfl, rfl, trivial⟩⟩ (fun m30 E_ a4 bf aG aH => ?_)
  obtain ⟨i, L, y5, rfl, rfl, ac, hrow, hy5, ⟨hi1, hi2⟩, hL, hpm⟩ := aH
  refine WCs (fun bg aI => WCs (fun bh aJ => WCg (WLz 4 [(29, I6 (IntKind.i64.wrap (Int.tdiv ((b - a : Nat) : Int) 4))), (27, I6 (a : Int)), (26, I6 (i : Int))] (WLt (show (I6 (IntKind.i64.wrap (Int.tdiv ((b - a : Nat) : Int) 4)) : Value) = I6 (((b - a) / 4 : Nat) : Int) from by rw [Int.tdiv_eq_ediv_of_nonneg (by omega), wrap_in_i64 _ (by omega) (by omega)] <;> first | rfl | (congr 1; done) | (congr 1; omega)) (WLq 1 [(30, I6 (IntKind.i64.wrap ((((b - a) / 4 : Nat) : Int) * 2)))] ?_)))))
  refine WLt (show (I6 (IntKind.i64.wrap ((((b - a) / 4 : Nat) : Int) * 2)) : Value) = I6 (((b - a) / 4 * 2 : Nat) : Int) from by rw [wrap_in_i64 _ (by omega) (by omega)] <;> first | rfl | (congr 1; done) | (congr 1; omega)) (WLq 1 [(31, I6 (IntKind.i64.wrap ((a : Int) + (((b - a) / 4 * 2 : Nat) : Int))))] (WLt (show (I6 (IntKind.i64.wrap ((a : Int) + (((b - a) / 4 * 2 : Nat) : Int))) : Value) = I6 ((a + (b - a) / 4 * 2 : Nat) : Int) from by rw [wrap_in_i64 _ (by omega) (by omega)] <;> first | rfl | (congr 1; done) | (congr 1; omega)) (WLq 1 [(32, I6 (IntKind.i64.wrap (((a + (b - a) / 4 * 2 : Nat) : Int) + 1)))] (WLt (show (I6 (IntKind.i64.wrap (((a + (b - a) / 4 * 2 : Nat) : Int) + 1)) : Value) = I6 ((a + (b - a) / 4 * 2 + 1 : Nat) : Int) from by rw [wrap_in_i64 _ (by omega) (by omega)] <;> first | rfl | (congr 1; done) | (congr 1; omega)) (WLq 1 [(33, .bool (decide ((i : Int) ≤ ((a + (b - a) / 4 * 2 + 1 : Nat) : Int))))] (WLd rfl (QXn (aJ _ _ ?_))))))))
  refine WCa 33 (decide ((i : Int) ≤ ((a + (b - a) / 4 * 2 + 1 : Nat) : Int))) rfl (fun af => ?_) (fun af => ?_)
  ·
   have a5 : (i : Int) ≤ ((a + (b - a) / 4 * 2 + 1 : Nat) : Int) := by have q_ := of_decide_eq_true af; omega
   refine WCt rfl (WC.skip (QXn (aI _ _ (WCs (fun bi aK => WC.block (WCs (fun bj aL => ?_)))))))
   refine WCg (WLk (next_ct g8 y5 (by omega) a4 (ac.get 0 rfl)) ?_)
   rintro _ bk ⟨y42, rfl, ao, aM, a6⟩
   have ap := ac.callM 0 rfl ao aM
   refine ⟨_, rfl, ?_⟩
   have aq := own_fr hrow ao (ac.apartM 0 0 rfl rfl)
   refine WLz 2 [(38, .int .u64 (IntKind.u64.wrap ((M2 : Int) - 1)))] (WLt (show (.int .u64 (IntKind.u64.wrap ((M2 : Int) - 1)) : Value) = .int .u64 ((M2 - 1 : Nat) : Int) from by rw [wrap_in_u64 _ (by omega) (by omega)] <;> first | rfl | (congr 1; done) | (congr 1; omega)) ?_)
   obtain ⟨z, hz, hz1⟩ := and_bd (y := (y42 : Int)) (m := ((M2 - 1 : Nat) : Int)) (by omega) (by omega) (by omega) (by omega)
   refine WLq 1 [(39, .int .u64 (Go.bits .and .u64 (y42 : Int) ((M2 - 1 : Nat) : Int)))] (WLt (show (.int .u64 (Go.bits .and .u64 (y42 : Int) ((M2 - 1 : Nat) : Int)) : Value) = .int .u64 (z : Int) from by rw [hz]) (WLq 1 [(40, I6 (IntKind.i64.wrap ((z : Int))))] (WLt (show (I6 (IntKind.i64.wrap ((z : Int))) : Value) = I6 (z : Int) from by rw [wrap_in_i64 _ (by omega) (by omega)]) (WLq 1 [(10, I6 (z : Int))] (WLd rfl (QXn (aL _ _ (WC.seqI (fun E_ w_ => ∃ (r : Nat), E_ = [(0, .slice A xs.length c), (1, I6 (a : Int)), (2, I6 (b : Int)), (6, I6 ((b - a : Nat) : Int)), (7, P0 g8 0), (8, .int .u64 (M2 : Int)), (9, I6 (i : Int)), (10, I6 (r : Int))] ∧ Cx w (blk (.slice A xs.length c)) w_ [(g8, .cells #[.int .u64 (y42 : Int)] 174)] [blk (.slice A xs.length c)] ∧ World.ownsRow w_ 0 40 1 (.slice A xs.length c) xs.length (L.flatMap (Go.Tw.encI .u32)) ∧ (r < b - a)) (fun bl ar => ?_) ?_))))))))
   ·
    refine WCs (fun bm aN => WCg (WLz 3 [(43, .bool (decide ((z : Int) ≥ ((b - a : Nat) : Int))))] (WLd rfl (QXn (aN _ _ (WCa 43 (decide ((z : Int) ≥ ((b - a : Nat) : Int))) rfl (fun ag => ?_) (fun ag => ?_)))))))
    ·
     have a7 : ((b - a : Nat) : Int) ≤ (z : Int) := by have q_ := of_decide_eq_true ag; omega
     refine WCt rfl (WCg (WLz 3 [(46, I6 (IntKind.i64.wrap ((z : Int) - ((b - a : Nat) : Int))))] (WLt (show (I6 (IntKind.i64.wrap ((z : Int) - ((b - a : Nat) : Int))) : Value) = I6 ((z - (b - a) : Nat) : Int) from by rw [wrap_in_i64 _ (by omega) (by omega)] <;> first | rfl | (congr 1; done) | (congr 1; omega)) (WLq 1 [(10, I6 ((z - (b - a) : Nat) : Int))] (WLd rfl ?_)))))
     refine QXn ?_
     have aO := ap.pickM [0] [0] (by decide) rfl rfl
     exact fun a_ ha_ => ar _ _ ⟨z - (b - a), rfl, aO, aq, by omega⟩ a_ (ha_.weaken (sub_of ⟨rfl, rfl, rfl, rfl, rfl, rfl, rfl, rfl, trivial⟩))
    ·
     have a7 : (z : Int) < ((b - a : Nat) : Int) := by have q_ := of_decide_eq_false ag; omega
     refine WCf rfl (WC.skip (QXn ?_))
     have aP := ap.pickM [0] [0] (by decide) rfl rfl
     exact fun a_ ha_ => ar _ _ ⟨z, rfl, aP, aq, by omega⟩ a_ (ha_.weaken (sub_of ⟨rfl, rfl, rfl, rfl, rfl, rfl, rfl, rfl, trivial⟩))
   rintro E_ bn ⟨r, rfl, aQ, row_m52, hr_⟩
   refine WC.drawC aQ (blk (.slice A xs.length c)) (by kernel_rfl) (fun bo aR aS aa => ?_)
   have ab := own_fr row_m52 aR (by simp)
   refine WDx 6 [(0, 47, .slice A xs.length c), (1, 48, I6 (i : Int)), (2, 49, .slice A xs.length c), (3, 50, I6 (a : Int)), (4, 51, I6 (r : Int)), (5, 52, I6 (IntKind.i64.wrap ((a : Int) + (r : Int))))] aa (WD.recast (show (I6 (IntKind.i64.wrap ((a : Int) + (r : Int))) : Value) = I6 ((a + r : Nat) : Int) from by rw [wrap_in_i64 _ (by omega) (by omega)] <;> first | rfl | (congr 1; done) | (congr 1; omega)) (WDx 4 [(6, 53, .slice A xs.length c), (7, 54, I6 (a : Int)), (8, 55, I6 (r : Int)), (9, 56, I6 (IntKind.i64.wrap ((a : Int) + (r : Int))))] aa (WD.recast (show (I6 (IntKind.i64.wrap ((a : Int) + (r : Int))) : Value) = I6 ((a + r : Nat) : Int) from by rw [wrap_in_i64 _ (by omega) (by omega)] <;> first | rfl | (congr 1; done) | (congr 1; omega)) ?_)))
   have a8 := own_count (Go.Tw.encI_len _) (by decide) ab
   obtain ⟨ah, ai⟩ := get_some (xs := L) (i := (a + r)) (by omega)
   obtain ⟨b67, au⟩ := own_addr (by decide) (Go.Tw.encI_len _) ab ai
   refine WDi (NPb (NPt (NPt (NPb hN)))) 10 A xs.length c 57 .i64 ((a + r : Nat) : Int) b67 0 (a + r) 1 (by kernel_rfl) (by kernel_rfl) au (by omega) (by omega) (a + r) (by first | (simp; done) | omega) aa (WDx 2 [(12, 59, .slice A xs.length c), (13, 60, I6 (i : Int))] aa ?_)
   have a9 := own_count (Go.Tw.encI_len _) (by decide) ab
   obtain ⟨aj, ad⟩ := get_some (xs := L) (i := i) (by omega)
   obtain ⟨b72, ae⟩ := own_addr (by decide) (Go.Tw.encI_len _) ab ad
   refine WDi (NPb (NPt (NPt (NPb hN)))) 14 A xs.length c 61 .i64 (i : Int) b72 0 i 1 (by kernel_rfl) (by kernel_rfl) ae (by omega) (by omega) i (by first | (simp; done) | omega) aa ?_
   refine two_loads 11 15 (Instr.loadAt 40 (P0 b67 (a + r))) (Instr.loadAt 40 (P0 b72 i)) 58 62 (U4 ah) (U4 aj) (by kernel_rfl) (by kernel_rfl) (by kernel_rfl) (run_load1 rfl (by simpa [Nat.add_assoc] using Rd.cell (own_rd ab (Go.Tw.encI_len _) (by decide)) au ai 0 _ rfl)) (run_load1 rfl (by simpa [Nat.add_assoc] using Rd.cell (own_rd ab (Go.Tw.encI_len _) (by decide)) ae ad 0 _ rfl)) aa (by kernel_rfl) (by kernel_rfl) (by kernel_rfl) (by kernel_rfl) (by decide) (by kernel_rfl) ?_
   refine WDi (NPb (NPt (NPt (NPb hN)))) 16 A xs.length c 63 .i64 (i : Int) b72 0 i 1 (by kernel_rfl) (by kernel_rfl) ae (by omega) (by omega) i (by first | (simp; done) | omega) aa ?_
   obtain ⟨bp, aT, aU, ak, aV⟩ := stoE_run Tryz.prog (Go.Tw.encI_len _) aS 0 ae rfl ab i 0 (x := aj) ad ah [U4 ah] rfl 40 (U4 ah) (i) rfl rfl rfl (by first | rfl | simp [Nat.add_assoc])
   have al := aa.trans aU (fun x_ hx_ => .inl hx_)
   refine WDu 17 aT al ?_
   have ba := own_count (Go.Tw.encI_len _) (by decide) ak
   obtain ⟨bb, av⟩ := get_some (xs := L.set i ah) (i := (a + r)) (by omega)
   obtain ⟨b87, aw⟩ := own_addr (by decide) (Go.Tw.encI_len _) ak av
   refine WDi (NPb (NPt (NPt (NPb hN)))) 18 A xs.length c 64 .i64 ((a + r : Nat) : Int) b87 0 (a + r) 1 (by kernel_rfl) (by kernel_rfl) aw (by omega) (by omega) (a + r) (by first | (simp; done) | omega) al ?_
   obtain ⟨bq, aW, aX, aY, aZ⟩ := stoE_run Tryz.prog (Go.Tw.encI_len _) aV 0 aw rfl ak (a + r) 0 (x := bb) av aj [U4 aj] rfl 40 (U4 aj) ((a + r)) rfl rfl rfl (by first | rfl | simp [Nat.add_assoc])
   have a0 := al.trans aX (fun x_ hx_ => .inl hx_)
   refine WDu 19 aW a0 (WDd (QXb (QXn (aK _ _ (WCg (WLz 2 [(35, I6 (IntKind.i64.wrap ((i : Int) + 1)))] ?_))))))
   refine WLt (show (I6 (IntKind.i64.wrap ((i : Int) + 1)) : Value) = I6 ((i + 1 : Nat) : Int) from by rw [wrap_in_i64 _ (by omega) (by omega)] <;> first | rfl | (congr 1; done) | (congr 1; omega)) (WLq 1 [(9, I6 ((i + 1 : Nat) : Int))] (WLd rfl (QXn ?_)))
   have a1 := aZ.pick [0] [0] rfl rfl
   refine fun a_ ha_ => aG _ _ _ ?_ ⟨i + 1, (L.set i ah).set (a + r) aj, y42, rfl, rfl, a1, aY, by omega, ⟨by omega, by omega⟩, (set2_len _ _ _ _ _).trans hL, perm_swp hpm ad ai (by omega) (by omega) (by omega) (by omega) (by omega)⟩ a_ (ha_.weaken (sub_of ⟨rfl, rfl, rfl, rfl, rfl, rfl, rfl, trivial⟩))
   omega
  ·
   have a5 : ((a + (b - a) / 4 * 2 + 1 : Nat) : Int) < (i : Int) := by have q_ := of_decide_eq_false af; omega
   refine WCf rfl (WC.exit (QXe (QXe (QX.block_hit ?_))))
   refine (hret _ _ _ rfl ?_).2
   exact ⟨L, rfl, ac.fr, hrow, hpm⟩
 ·
  have t5 : ((b - a : Nat) : Int) < 8 := by have q_ := of_decide_eq_false t5b; omega
  refine WCf rfl (WC.skip ?_)
  refine (hret _ _ _ rfl ?_).2
  exact ⟨xs, rfl, hC.fr, hown, permIn_refl _ _ _⟩

theorem brk_n (A : Option Addr) (c n : Nat) (xs : List Int) (hn : xs.length = n) (a b : Nat) (w : World) (hown : w.ownsRow 0 40 1 (.slice A n c) n (xs.flatMap (Go.Tw.encI .u32))) (hlen : n ≤ 1099511627776) (hab : a < b) (hb : b ≤ n) : Calls Tryz.prog 99 #[.slice A n c, .int .i64 (a : Int), .int .i64 (b : Int)] w fun e w' => ∃ ys : List Int, e = .returned (.tuple #[]) ∧ Fr w w' (blk (.slice A n c)) ∧ w'.ownsRow 0 40 1 (.slice A n c) n (ys.flatMap (Go.Tw.encI .u32)) ∧ PermIn a b (aOf xs) (aOf ys) := by subst hn; exact brk_ct A c xs a b w hown hlen hab hb
end Go.Proofs.YtfligklljkcbfaaGreatDoor
