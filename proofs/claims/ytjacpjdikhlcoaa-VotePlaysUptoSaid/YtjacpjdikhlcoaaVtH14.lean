/- Contracts of functions of the program, each proved by a walk through its code; conditions stand in the statements. -/
import Derived.Test.YtjacpjdikhlcoaaVtG14
import Derived.Test.YtjacpjdikhlcoaaTwOpen
namespace Go.Proofs.Ytjacpjdikhlcoaa
set_option linter.unusedSimpArgs false
set_option linter.unusedVariables false
set_option linter.unusedSectionVars false
open Go Go.RowKit Go.Tw
set_option linter.unusedVariables false
set_option maxRecDepth 20000
theorem putE_yes {N : Ct} {size : Int} {key : ByteArray} {tot : Nat} (h1 : 1 ≤ key.size) (h2 : key.size ≤ 64) (h : ((usedL (delL N key) + key.size + tot : Nat) : Int) ≤ size) : putE N size key tot = 0 := by
  unfold putE; rw [if_neg (by omega), if_pos h]
theorem cat1 (a : Option Addr) (n c : Nat) (xs : List Int) : catL [⟨a, n, c, xs⟩] = xs := by simp [catL]
theorem cat2 (a b : Option Addr) (n c n2 c2 : Nat) (xs ys : List Int) : catL [⟨a, n, c, xs⟩, ⟨b, n2, c2, ys⟩] = xs ++ ys := by simp [catL]
def putS (N : Ct) (size : Int) (key : ByteArray) (xs : List Int) : Ct := if putE N size key xs.length = 0 then putL N key xs else N
def dropN : Ct → List ByteArray → Nat
  | _, [] => 0
  | N, k :: r => (if (lookL N k).isSome then 1 else 0) + dropN (delL N k) r
theorem stAt_nodup {w : World} {F : List Nat} {p : Nat} {N Y : Ct} {size : Int} (h : stAt w F p N Y size) : (N.map (·.1)).Nodup ∧ (Y.map (·.1)).Nodup := by
  obtain ⟨b1, b2, m1, m2, _, h1, h2, rfl, rfl, _⟩ := h
  have hk : ∀ m : Mt, (ct m).map (·.1) = m.map (·.1) := fun m => by simp [ct, List.map_map, Function.comp_def]
  obtain ⟨_, _, _, k1⟩ := h1.map
  obtain ⟨_, _, _, k2⟩ := h2.map
  rw [hk, hk]; exact ⟨k1.keys, k2.keys⟩


theorem Put_any (F : List Nat) (p : Nat) (N Y : Ct) (size : Int) (key : ByteArray) (A : Option Addr) (c : Nat) (ps : List BRow) (xs : List Int) (w : World) (ht : stAt w F p N Y size) (hps : Rd w 1 cellB A ps) (hr : ∀ r ∈ ps, rowAt w r) (hpl : ps.length < 2 ^ 60) (hc : catL ps = xs) : Calls Try.prog 48 #[.pointer (some ⟨p, 0, none⟩), .string key, .slice A ps.length c] w fun e w' => ∃ F2, e = .returned (errV 35 (putE N size key xs.length)) ∧ Fr w w' F ∧ stAt w' F2 p (putS N size key xs) Y size ∧ ∀ x ∈ F2, x ∈ F ∨ w.heap.size ≤ x := by
  subst hc
  exact Put_ct F p N Y size key A c ps w ht hps hr hpl
theorem Num_nil  (w : World) : Calls Try.prog 15 #[.nilIface] w fun e w' => e = .returned (.int .i64 0) ∧ Fr w w' [] := by
 refine enterD (n := 19) Try.func15 rfl rfl (Nat.le_of_ble_eq_true rfl) ?_
 intro Q0 hN hret hret'
 have hC := Cx.start w
 refine WCs (fun K1 hK2 => ?_)
 refine WCg (WLr 1 [(2, .int .i64 0)] (fun _ => by kernel_rfl) (WLd rfl (QXn (hK2 _ _ ?_))))
 refine WCs (fun K3 hK4 => ?_)
 refine WCs (fun K5 hK6 => ?_)
 refine WCg (WLr 2 [(6, .bool true), (5, .nilIface)] (fun _ => by kernel_rfl) (WLd rfl (QXn (hK6 _ _ ?_))))
 refine WCt rfl ?_
 refine WCs (fun K7 hK8 => ?_)
 refine WCg (WLr 1 [(2, .int .i64 0)] (fun _ => by kernel_rfl) (WLd rfl (QXn (hK8 _ _ ?_))))
 refine WC.ret ?_
 refine QXr ?_
 refine (hret _ _ _ rfl ?_).1
 exact ⟨rfl, hC.fr⟩

theorem Num_err (c : Int) (w : World) (hc : c ≠ 0) : Calls Try.prog 15 #[.iface 35 (.int .i64 c)] w fun e w' => e = .returned (.int .i64 c) ∧ Fr w w' [] := by
 refine enterD (n := 19) Try.func15 rfl rfl (Nat.le_of_ble_eq_true rfl) ?_
 intro Q0 hN hret hret'
 have hC := Cx.start w
 refine WCs (fun K1 hK2 => ?_)
 refine WCg (WLr 1 [(2, .int .i64 0)] (fun _ => by kernel_rfl) (WLd rfl (QXn (hK2 _ _ ?_))))
 refine WCs (fun K3 hK4 => ?_)
 refine WCs (fun K5 hK6 => ?_)
 refine WCg (WLr 2 [(6, .bool false), (5, .iface 35 (.int .i64 c))] (fun _ => by kernel_rfl) (WLd rfl (QXn (hK6 _ _ ?_))))
 refine WCf rfl (WC.skip (QXn (hK4 _ _ ?_)))
 refine WCs (fun K7 hK8 => ?_)
 refine WCg (WLr 7 [(4, .bool true), (3, .int .i64 c), (11, .bool true), (10, .int .i64 c), (7, .tuple #[.int .i64 c, .bool true]), (9, .tuple #[.int .i64 c, .bool true]), (8, .iface 35 (.int .i64 c))] (fun _ => by kernel_rfl) (WLd rfl (QXn (hK8 _ _ ?_))))
 refine WCs (fun K9 hK10 => ?_)
 refine WCs (fun K11 hK12 => ?_)
 refine WCg (WLr 6 [(17, .bool (c == 0)), (16, .bool (c == 0)), (15, .int .i64 c), (14, .bool false), (13, .bool false), (12, .bool true)] (fun _ => by kernel_rfl) (WLd rfl (QXn (hK12 _ _ ?_))))
 refine WC.know 17 (.bool (c == 0)) (.bool false) rfl (congrArg Value.bool (by simpa using hc)) ?_
 refine WCf rfl (WC.skip (QXn (hK10 _ _ ?_)))
 refine WCs (fun K13 hK14 => ?_)
 refine WCg (WLr 2 [(2, .int .i64 c), (18, .int .i64 c)] (fun _ => by kernel_rfl) (WLd rfl (QXn (hK14 _ _ ?_))))
 refine WC.ret ?_
 refine (hret _ _ _ rfl ?_).1
 exact ⟨rfl, hC.fr⟩

theorem Num_ct (c : Int) (w : World) : Calls Try.prog 15 #[errV 35 c] w fun e w' => e = .returned (.int .i64 c) ∧ Fr w w' [] := by
  unfold errV
  by_cases h : c = 0
  · subst h; exact Num_nil w
  · rw [if_neg h]; exact Num_err c w h
end Go.Proofs.Ytjacpjdikhlcoaa
