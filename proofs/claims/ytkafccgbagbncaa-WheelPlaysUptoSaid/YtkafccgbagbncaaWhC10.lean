/- Contracts of functions of the program, each proved by a walk through its code; conditions stand in the statements. -/
import Derived.Test.YtkafccgbagbncaaWhB10
import Derived.Test.YtkafccgbagbncaaTwFoc
namespace Go.Proofs.Ytkafccgbagbncaa
set_option linter.unusedSimpArgs false
set_option linter.unusedVariables false
set_option linter.unusedSectionVars false
open Go Go.RowKit Go.Tw
set_option linter.unusedVariables false
set_option maxRecDepth 20000
theorem wh_mk {w0 w : World} {F0 : List Nat} {M : List (Nat × Obj)} {Fs : List (List Nat)} (hC : Cx w0 F0 w M Fs) {p g mb N : Nat} {rows : List TRow} {es : Array MapEntry} {cl : Nat} {m : List (Int × Int)} {hand : Int} (k j : Nat)
    (h1 : M[k]? = some (p, .cells #[.slice (some ⟨g, 0, none⟩) N N, .map (some mb), .int .i64 hand] 62 (0, 0))) (h2 : M[k + 1]? = some (g, .cells (rows.flatMap encR).toArray 65 (0, 0))) (h3 : M[k + 2]? = some (mb, .map es cl)) (hj : Fs[j]? = some (rowsF rows))
    (hm : MapOk ekI evI es cl m) (ho : rowsO w rows) (hw : wOk N rows m) : whAt w (p :: g :: mb :: rowsF rows) p N m hand :=
  ⟨g, mb, rows, es, cl, hC.get k h1, hC.get (k + 1) h2, hC.get (k + 2) h3, hm, ho, hw, rfl, ⟨hC.ne k (k + 1) h1 h2 (by omega), hC.ne k (k + 2) h1 h3 (by omega), hC.ne (k + 1) (k + 2) h2 h3 (by omega)⟩, hC.notin j k hj h1, hC.notin j (k + 1) hj h2, hC.notin j (k + 2) hj h3⟩
theorem setL_step {m : List (Int × Int)} {a : Int} {ks : List Int} {i : Nat} {k : Int} (h : ks[i]? = some k) : setL m a (ks.drop i) = setL (delL m k ++ [(k, a)]) a (ks.drop (i + 1)) := by rw [drop_cons h]; rfl
theorem setH_step {hand a : Int} {ks : List Int} {i : Nat} {k : Int} (h : ks[i]? = some k) : setH hand a (ks.take (i + 1)) = min (setH hand a (ks.take i)) a := by
  obtain ⟨hi, rfl⟩ := List.getElem?_eq_some_iff.1 h
  unfold setH
  rw [if_neg (c := ks.take (i + 1) = []) (by intro h0; have h1 := congrArg List.length h0; rw [List.length_take, List.length_nil] at h1; omega)]
  split
  · rfl
  · omega
/-! ### the least time -/
def nextL : List (Int × Int) → Int
  | [] => 0
  | t :: r => r.foldl (fun a u => min a u.2) t.2
theorem foldl_min_le (r : List (Int × Int)) : ∀ a : Int, r.foldl (fun a u => min a u.2) a ≤ a ∧ (∀ t ∈ r, r.foldl (fun a u => min a u.2) a ≤ t.2) ∧ (r.foldl (fun a u => min a u.2) a = a ∨ ∃ t ∈ r, r.foldl (fun a u => min a u.2) a = t.2) := by
  induction r with
  | nil => intro a; exact ⟨Int.le_refl _, by simp, .inl rfl⟩
  | cons u r ih =>
    intro a
    obtain ⟨h1, h2, h3⟩ := ih (min a u.2)
    simp only [List.foldl_cons]
    refine ⟨by omega, fun t ht => ?_, ?_⟩
    · rcases List.mem_cons.1 ht with rfl | ht
      · omega
      · exact h2 t ht
    · rcases h3 with h3 | ⟨t, ht, h3⟩
      · rw [h3]
        rcases Int.le_total a u.2 with h | h
        · left; omega
        · right; exact ⟨u, List.mem_cons_self, by omega⟩
      · right; exact ⟨t, List.mem_cons_of_mem _ ht, h3⟩
theorem nextL_min {m : List (Int × Int)} (h : m ≠ []) : (∀ t ∈ m, nextL m ≤ t.2) ∧ ∃ t ∈ m, nextL m = t.2 := by
  cases m with
  | nil => exact absurd rfl h
  | cons u r =>
    obtain ⟨h1, h2, h3⟩ := foldl_min_le r u.2
    unfold nextL
    refine ⟨fun t ht => ?_, ?_⟩
    · rcases List.mem_cons.1 ht with rfl | ht
      · exact h1
      · exact h2 t ht
    · rcases h3 with h3 | ⟨t, ht, h3⟩
      · exact ⟨u, List.mem_cons_self, h3⟩
      · exact ⟨t, List.mem_cons_of_mem _ ht, h3⟩
theorem nextL_eq {m : List (Int × Int)} {x : Int} (h1 : ∀ t ∈ m, x ≤ t.2) (h2 : ∃ t ∈ m, x = t.2) : nextL m = x := by
  obtain ⟨t, ht, rfl⟩ := h2
  have hne : m ≠ [] := fun e => by rw [e] at ht; cases ht
  obtain ⟨h3, u, hu, h4⟩ := nextL_min hne
  have := h1 u hu
  have := h3 t ht
  omega
def leastI (vis : List (Int × Int)) (least : Int) (found : Bool) : Prop := (found = false ∧ vis = [] ∧ least = 0) ∨ (found = true ∧ (∀ t ∈ vis, least ≤ t.2) ∧ ∃ t ∈ vis, least = t.2)
theorem leastI_end {vis m : List (Int × Int)} {least : Int} {found : Bool} (h : leastI vis least found) (hp : vis.Perm m) : least = nextL m ∧ found = !m.isEmpty := by
  rcases h with ⟨rfl, rfl, rfl⟩ | ⟨rfl, h1, t, ht, rfl⟩
  · have := hp.nil_eq; subst this; exact ⟨rfl, rfl⟩
  · refine ⟨(nextL_eq (fun u hu => h1 u (hp.mem_iff.2 hu)) ⟨t, hp.mem_iff.1 ht, rfl⟩).symm, ?_⟩
    have : t ∈ m := hp.mem_iff.1 ht
    cases m with
    | nil => cases this
    | cons _ _ => rfl
theorem leastI_new {vis : List (Int × Int)} {least : Int} {found : Bool} {x : Int × Int} (h : leastI vis least found) (hc : found = false ∨ x.2 < least) : leastI (vis ++ [x]) x.2 true := by
  right
  refine ⟨rfl, fun t ht => ?_, x, by simp, rfl⟩
  rcases List.mem_append.1 ht with ht | ht
  · rcases h with ⟨rfl, rfl, _⟩ | ⟨rfl, h1, _⟩
    · cases ht
    · have := h1 t ht
      rcases hc with hc | hc
      · cases hc
      · omega
  · rw [List.mem_singleton] at ht; subst ht; exact Int.le_refl _
theorem leastI_old {vis : List (Int × Int)} {least : Int} {found : Bool} {x : Int × Int} (h : leastI vis least found) (hf : found = true) (hc : ¬ x.2 < least) : leastI (vis ++ [x]) least found := by
  subst hf
  rcases h with ⟨h, _⟩ | ⟨_, h1, t, ht, h2⟩
  · cases h
  · right
    refine ⟨rfl, fun u hu => ?_, t, by simp [ht], h2⟩
    rcases List.mem_append.1 hu with hu | hu
    · exact h1 u hu
    · rw [List.mem_singleton] at hu; subst hu; omega
theorem rep_enc (N : Nat) : (List.replicate N (⟨none, 0, []⟩ : TRow)).flatMap encR = List.replicate N (.slice none 0 0) := by
  induction N with
  | zero => rfl
  | succ n ih => rw [List.replicate_succ, List.flatMap_cons, ih, List.replicate_succ]; rfl
theorem rowsF_rep (N : Nat) : rowsF (List.replicate N (⟨none, 0, []⟩ : TRow)) = [] := by
  unfold rowsF
  rw [List.flatMap_eq_nil_iff]
  intro r hr
  rw [(List.mem_replicate.1 hr).2]; rfl
theorem rowsO_rep (w : World) (N : Nat) : rowsO w (List.replicate N (⟨none, 0, []⟩ : TRow)) := by
  refine ⟨fun r hr => ?_, fun i j a b ha hb hij x hx => ?_⟩
  · rw [(List.mem_replicate.1 hr).2]; exact own_nil _ _ _ _
  · rw [(List.mem_replicate.1 (List.mem_of_getElem? ha)).2] at hx; cases hx
theorem At_ct (F : List Nat) (p N : Nat) (m : List (Int × Int)) (hand : Int) (k : Int) (w : World) (ht : whAt w F p N m hand) : Calls Try.prog 21 #[.pointer (some ⟨p, 0, none⟩), .int .i64 k] w fun e w' => e = .returned (.tuple #[.int .i64 ((lookL m k).getD 0), .bool (lookL m k).isSome]) ∧ Fr w w' [] := by
  refine enterD (n := 21) Try.func21 rfl rfl (Nat.le_of_ble_eq_true rfl) ?_
  intro Q0 hN hret hret'
  have ht0 := ht
  obtain ⟨g, mb, rows, es, cl, hp_, hg_, hmb_, hm_, hro_, hw_, rfl, hne_, hni_⟩ := ht
  have hC := Cx.openW hp_ hg_ hmb_ (rowsO_lt hro_) hne_ hni_
  obtain ⟨hN0_, hN1_⟩ := hw_.n
  refine WC.seq (fun K1 hK2 => ?_)
  refine WC.region ?_
  refine WL.runs 2 [(5, .bool false), (4, .int .i64 0)] (fun _ => by kernel_rfl) ?_
  refine WL.done rfl ?_
  refine QX.then_normal (hK2 _ _ ?_)
  refine WC.seq (fun K3 hK4 => ?_)
  refine WC.seq (fun K5 hK6 => ?_)
  refine WC.region ?_
  refine WL.runs 2 [(9, .bool false), (8, .pointer (some ⟨p, 0, none⟩))] (fun _ => by kernel_rfl) ?_
  refine WL.done rfl ?_
  refine QX.then_normal (hK6 _ _ ?_)
  refine WC.cond_false rfl ?_
  refine WC.skip ?_
  refine QX.then_normal (hK4 _ _ ?_)
  refine WC.seq (fun K7 hK8 => ?_)
  refine WC.region ?_
  refine WL.runs 3 [(13, .pointer (some ⟨p, 1, none⟩)), (12, .pointer (some ⟨p, 0, none⟩)), (11, .pointer (some ⟨p, 0, none⟩))] (fun _ => by kernel_rfl) ?_
  refine WL.load 60 (.pointer (some ⟨p, 1, none⟩)) (.map (some mb)) 14 (by kernel_rfl) (run_ld (hC.get 0 rfl) rfl) ?_
  refine WL.runs 1 [(15, .int .i64 k)] (fun _ => by kernel_rfl) ?_
  obtain ⟨xv9, hxv10⟩ : ∃ x_, (lookL m k).getD (0 : Int) = x_ := ⟨_, rfl⟩
  obtain ⟨bv11, hbv12⟩ : ∃ b_, (lookL m k).isSome = b_ := ⟨_, rfl⟩
  have hr13 := lookM_ok (P := Try.prog) (w := w) (ek := ekI) (ev := evI) (d := (0 : Int)) (rfl : Program.underlying Try.prog 60 = some (.map 3 3)) keyI' (fun _ => by kernel_rfl) (hC.get 2 rfl) hm_ k hxv10 hbv12
  refine WL.sem (Instr.lookup 60 (.map (some mb)) (.int .i64 k) true) 16 (.tuple #[.int .i64 xv9, .bool bv11]) (by kernel_rfl) hr13 ?_
  refine WL.runs 5 [(7, .bool bv11), (6, .int .i64 xv9), (18, .bool bv11), (17, .int .i64 xv9), (10, .tuple #[.int .i64 xv9, .bool bv11])] (fun _ => by kernel_rfl) ?_
  refine WL.done rfl ?_
  refine QX.then_normal (hK8 _ _ ?_)
  refine WC.seq (fun K14 hK15 => ?_)
  refine WC.region ?_
  refine WL.runs 4 [(5, .bool bv11), (4, .int .i64 xv9), (20, .bool bv11), (19, .int .i64 xv9)] (fun _ => by kernel_rfl) ?_
  refine WL.done rfl ?_
  refine QX.then_normal (hK15 _ _ ?_)
  refine WC.ret ?_
  refine (hret _ _ _ rfl ?_).1
  clear hN hret hret' hK15 hK8 hK6 hK4 hK2
  exact ⟨by show Ending.returned (.tuple #[.int .i64 xv9, .bool bv11]) = _; first | rfl | (simp [*]; done), (Fr.refl w [])⟩

theorem At_nil (k : Int) (w : World) : Calls Try.prog 21 #[.pointer none, .int .i64 k] w fun e w' => e = .returned (.tuple #[.int .i64 0, .bool false]) ∧ Fr w w' [] := by
  refine enterD (n := 21) Try.func21 rfl rfl (Nat.le_of_ble_eq_true rfl) ?_
  intro Q0 hN hret hret'
  have hC := Cx.start w
  refine WC.seq (fun K1 hK2 => ?_)
  refine WC.region ?_
  refine WL.runs 2 [(5, .bool false), (4, .int .i64 0)] (fun _ => by kernel_rfl) ?_
  refine WL.done rfl ?_
  refine QX.then_normal (hK2 _ _ ?_)
  refine WC.seq (fun K3 hK4 => ?_)
  refine WC.seq (fun K5 hK6 => ?_)
  refine WC.region ?_
  refine WL.runs 2 [(9, .bool true), (8, .pointer none)] (fun _ => by kernel_rfl) ?_
  refine WL.done rfl ?_
  refine QX.then_normal (hK6 _ _ ?_)
  refine WC.cond_true rfl ?_
  refine WC.seq (fun K7 hK8 => ?_)
  refine WC.region ?_
  refine WL.runs 2 [(5, .bool false), (4, .int .i64 0)] (fun _ => by kernel_rfl) ?_
  refine WL.done rfl ?_
  refine QX.then_normal (hK8 _ _ ?_)
  refine WC.ret ?_
  refine QX.then_ret ?_
  refine (hret _ _ _ rfl ?_).1
  clear hN hret hret' hK8 hK6 hK4 hK2
  exact ⟨rfl, hC.fr⟩

theorem Len_ct (F : List Nat) (p N : Nat) (m : List (Int × Int)) (hand : Int)  (w : World) (ht : whAt w F p N m hand) : Calls Try.prog 17 #[.pointer (some ⟨p, 0, none⟩)] w fun e w' => e = .returned (.int .i64 (m.length : Int)) ∧ Fr w w' [] := by
  refine enterD (n := 10) Try.func17 rfl rfl (Nat.le_of_ble_eq_true rfl) ?_
  intro Q0 hN hret hret'
  have ht0 := ht
  obtain ⟨g, mb, rows, es, cl, hp_, hg_, hmb_, hm_, hro_, hw_, rfl, hne_, hni_⟩ := ht
  have hC := Cx.openW hp_ hg_ hmb_ (rowsO_lt hro_) hne_ hni_
  obtain ⟨hN0_, hN1_⟩ := hw_.n
  refine WC.seq (fun K1 hK2 => ?_)
  refine WC.region ?_
  refine WL.runs 1 [(2, .int .i64 0)] (fun _ => by kernel_rfl) ?_
  refine WL.done rfl ?_
  refine QX.then_normal (hK2 _ _ ?_)
  refine WC.seq (fun K3 hK4 => ?_)
  refine WC.seq (fun K5 hK6 => ?_)
  refine WC.region ?_
  refine WL.runs 2 [(4, .bool false), (3, .pointer (some ⟨p, 0, none⟩))] (fun _ => by kernel_rfl) ?_
  refine WL.done rfl ?_
  refine QX.then_normal (hK6 _ _ ?_)
  refine WC.cond_false rfl ?_
  refine WC.skip ?_
  refine QX.then_normal (hK4 _ _ ?_)
  refine WC.seq (fun K7 hK8 => ?_)
  refine WC.region ?_
  refine WL.runs 3 [(7, .pointer (some ⟨p, 1, none⟩)), (6, .pointer (some ⟨p, 0, none⟩)), (5, .pointer (some ⟨p, 0, none⟩))] (fun _ => by kernel_rfl) ?_
  refine WL.load 60 (.pointer (some ⟨p, 1, none⟩)) (.map (some mb)) 8 (by kernel_rfl) (run_ld (hC.get 0 rfl) rfl) ?_
  refine WL.sem (Builtin.len_ #[60] 3 #[.map (some mb)]) 9 (.int .i64 (m.length : Int)) (by kernel_rfl) (run_lenM (rfl : Program.underlying Try.prog 60 = some (.map 3 3)) (hC.get 2 rfl) hm_) ?_
  refine WL.runs 1 [(2, .int .i64 (m.length : Int))] (fun _ => by kernel_rfl) ?_
  refine WL.done rfl ?_
  refine QX.then_normal (hK8 _ _ ?_)
  refine WC.ret ?_
  refine (hret _ _ _ rfl ?_).1
  clear hN hret hret' hK8 hK6 hK4 hK2
  exact ⟨rfl, (Fr.refl w [])⟩

theorem Len_nil  (w : World) : Calls Try.prog 17 #[.pointer none] w fun e w' => e = .returned (.int .i64 0) ∧ Fr w w' [] := by
  refine enterD (n := 10) Try.func17 rfl rfl (Nat.le_of_ble_eq_true rfl) ?_
  intro Q0 hN hret hret'
  have hC := Cx.start w
  refine WC.seq (fun K1 hK2 => ?_)
  refine WC.region ?_
  refine WL.runs 1 [(2, .int .i64 0)] (fun _ => by kernel_rfl) ?_
  refine WL.done rfl ?_
  refine QX.then_normal (hK2 _ _ ?_)
  refine WC.seq (fun K3 hK4 => ?_)
  refine WC.seq (fun K5 hK6 => ?_)
  refine WC.region ?_
  refine WL.runs 2 [(4, .bool true), (3, .pointer none)] (fun _ => by kernel_rfl) ?_
  refine WL.done rfl ?_
  refine QX.then_normal (hK6 _ _ ?_)
  refine WC.cond_true rfl ?_
  refine WC.seq (fun K7 hK8 => ?_)
  refine WC.region ?_
  refine WL.runs 1 [(2, .int .i64 0)] (fun _ => by kernel_rfl) ?_
  refine WL.done rfl ?_
  refine QX.then_normal (hK8 _ _ ?_)
  refine WC.ret ?_
  refine QX.then_ret ?_
  refine (hret _ _ _ rfl ?_).1
  clear hN hret hret' hK8 hK6 hK4 hK2
  exact ⟨rfl, hC.fr⟩

theorem Cancel_nil (A : Option Addr) (n c : Nat) (w : World) : Calls Try.prog 15 #[.pointer none, .slice A n c] w fun e w' => e = .returned (.int .i64 0) ∧ Fr w w' [] := by
  refine enterD (n := 49) Try.func15 rfl rfl (Nat.le_of_ble_eq_true rfl) ?_
  intro Q0 hN hret hret'
  have hC := Cx.start w
  refine WC.seq (fun K1 hK2 => ?_)
  refine WC.region ?_
  refine WL.runs 1 [(4, .int .i64 0)] (fun _ => by kernel_rfl) ?_
  refine WL.done rfl ?_
  refine QX.then_normal (hK2 _ _ ?_)
  refine WC.seq (fun K3 hK4 => ?_)
  refine WC.seq (fun K5 hK6 => ?_)
  refine WC.region ?_
  refine WL.runs 2 [(12, .bool true), (11, .pointer none)] (fun _ => by kernel_rfl) ?_
  refine WL.done rfl ?_
  refine QX.then_normal (hK6 _ _ ?_)
  refine WC.cond_true rfl ?_
  refine WC.seq (fun K7 hK8 => ?_)
  refine WC.region ?_
  refine WL.runs 1 [(4, .int .i64 0)] (fun _ => by kernel_rfl) ?_
  refine WL.done rfl ?_
  refine QX.then_normal (hK8 _ _ ?_)
  refine WC.ret ?_
  refine QX.then_ret ?_
  refine (hret _ _ _ rfl ?_).1
  clear hN hret hret' hK8 hK6 hK4 hK2
  exact ⟨rfl, hC.fr⟩

theorem Next_nil  (w : World) : Calls Try.prog 18 #[.pointer none] w fun e w' => e = .returned (.tuple #[.int .i64 0, .bool false]) ∧ Fr w w' [] := by
  refine enterD (n := 29) Try.func18 rfl rfl (Nat.le_of_ble_eq_true rfl) ?_
  intro Q0 hN hret hret'
  have hC := Cx.start w
  refine WC.seq (fun K1 hK2 => ?_)
  refine WC.region ?_
  refine WL.runs 2 [(3, .bool false), (2, .int .i64 0)] (fun _ => by kernel_rfl) ?_
  refine WL.done rfl ?_
  refine QX.then_normal (hK2 _ _ ?_)
  refine WC.seq (fun K3 hK4 => ?_)
  refine WC.region ?_
  refine WL.runs 2 [(5, .bool false), (4, .int .i64 0)] (fun _ => by kernel_rfl) ?_
  refine WL.done rfl ?_
  refine QX.then_normal (hK4 _ _ ?_)
  refine WC.seq (fun K5 hK6 => ?_)
  refine WC.seq (fun K7 hK8 => ?_)
  refine WC.region ?_
  refine WL.runs 2 [(9, .bool true), (8, .pointer none)] (fun _ => by kernel_rfl) ?_
  refine WL.done rfl ?_
  refine QX.then_normal (hK8 _ _ ?_)
  refine WC.cond_true rfl ?_
  refine WC.seq (fun K9 hK10 => ?_)
  refine WC.region ?_
  refine WL.runs 2 [(3, .bool false), (2, .int .i64 0)] (fun _ => by kernel_rfl) ?_
  refine WL.done rfl ?_
  refine QX.then_normal (hK10 _ _ ?_)
  refine WC.ret ?_
  refine QX.then_ret ?_
  refine (hret _ _ _ rfl ?_).1
  clear hN hret hret' hK10 hK8 hK6 hK4 hK2
  exact ⟨rfl, hC.fr⟩

theorem Next_ct (F : List Nat) (p N : Nat) (m : List (Int × Int)) (hand : Int)  (w : World) (ht : whAt w F p N m hand) : Calls Try.prog 18 #[.pointer (some ⟨p, 0, none⟩)] w fun e w' => e = .returned (.tuple #[.int .i64 (nextL m), .bool (!m.isEmpty)]) ∧ Fr w w' [] := by
  refine enterD (n := 29) Try.func18 rfl rfl (Nat.le_of_ble_eq_true rfl) ?_
  intro Q0 hN hret hret'
  have ht0 := ht
  obtain ⟨g, mb, rows, es, cl, hp_, hg_, hmb_, hm_, hro_, hw_, rfl, hne_, hni_⟩ := ht
  have hC := Cx.openW hp_ hg_ hmb_ (rowsO_lt hro_) hne_ hni_
  obtain ⟨hN0_, hN1_⟩ := hw_.n
  refine WC.seq (fun K1 hK2 => ?_)
  refine WC.region ?_
  refine WL.runs 2 [(3, .bool false), (2, .int .i64 0)] (fun _ => by kernel_rfl) ?_
  refine WL.done rfl ?_
  refine QX.then_normal (hK2 _ _ ?_)
  refine WC.seq (fun K3 hK4 => ?_)
  refine WC.region ?_
  refine WL.runs 2 [(5, .bool false), (4, .int .i64 0)] (fun _ => by kernel_rfl) ?_
  refine WL.done rfl ?_
  refine QX.then_normal (hK4 _ _ ?_)
  refine WC.seq (fun K5 hK6 => ?_)
  refine WC.seq (fun K7 hK8 => ?_)
  refine WC.region ?_
  refine WL.runs 2 [(9, .bool false), (8, .pointer (some ⟨p, 0, none⟩))] (fun _ => by kernel_rfl) ?_
  refine WL.done rfl ?_
  refine QX.then_normal (hK8 _ _ ?_)
  refine WC.cond_false rfl ?_
  refine WC.skip ?_
  refine QX.then_normal (hK6 _ _ ?_)
  refine WC.seq (fun K9 hK10 => ?_)
  refine WC.seq (fun K11 hK12 => ?_)
  refine WC.region ?_
  refine WL.runs 3 [(12, .pointer (some ⟨p, 1, none⟩)), (11, .pointer (some ⟨p, 0, none⟩)), (10, .pointer (some ⟨p, 0, none⟩))] (fun _ => by kernel_rfl) ?_
  refine WL.load 60 (.pointer (some ⟨p, 1, none⟩)) (.map (some mb)) 13 (by kernel_rfl) (run_ld (hC.get 0 rfl) rfl) ?_
  obtain ⟨it13, w14, hr15, hF16, hC17, hge18⟩ := range_run (P := Try.prog) hC 2 rfl (t := 60) (rfl : Program.underlying Try.prog 60 = some (.map 3 3))
  refine WL.sem (Instr.range 60 (.map (some mb))) 14 (.pointer (some ⟨it13, 0, none⟩)) (by kernel_rfl) hr15 ?_
  have hf19 := rowsO_fr hro_ hF16 (by simp)
  have hf20 := (Fr.refl w []).trans hF16 (by simp)
  refine WL.done rfl ?_
  refine QX.then_normal (hK12 _ _ ?_)
  refine WC.block ?_
  refine WC.loop (fun m_ E_ w_ => ∃ (seen21 : Array Nat) (vis21 left21 : List (Int × Int)) (least : Int) (found : Bool), m_ = left21.length ∧ E_ = [(0, .pointer (some ⟨p, 0, none⟩)), (2, .int .i64 0), (3, .bool false), (4, .int .i64 least), (5, .bool found), (14, .pointer (some ⟨it13, 0, none⟩))] ∧ Cx w (p :: g :: mb :: rowsF rows) w_ [(p, .cells #[.slice (some ⟨g, 0, none⟩) N N, .map (some mb), .int .i64 hand] 62), (g, .cells (rows.flatMap encR).toArray 65 (0, 0)), (mb, .map es cl), (it13, .mapIter (some mb) cl seen21 cl)] [rowsF rows] ∧ SameF w w_ (rowsF rows) ∧ (It ekI evI es seen21 m vis21 left21 ∧ leastI vis21 least found)) ⟨_, _, ⟨#[], [], m, 0, false, rfl, rfl, hC17, (SameF.fr (SameF.refl w (rowsF rows) (rowsO_lt hro_)) hf20 (by simp)), (It.start hm_), .inl ⟨rfl, rfl, rfl⟩⟩, sub_of ⟨rfl, rfl, rfl, rfl, rfl, rfl, trivial⟩⟩ (fun m25 E_ w26 K22 hK23 hI24 => ?_)
  obtain ⟨seen21, vis21, left21, least, found, rfl, rfl, hC27, same_m25, hit21, hle⟩ := hI24
  skip
  refine WC.seq (fun K28 hK29 => ?_)
  refine WC.region ?_
  rcases next_run (P := Try.prog) hC27 2 3 rfl rfl hm_ hit21 0 with ⟨hl30, hr31⟩ | ⟨p32, l33, l34, seen35, w36, hl30, hr31, hF37, hC38, hit39, hent40⟩
  · -- nothing is left
    refine WL.sem (Instr.next (.pointer (some ⟨it13, 0, none⟩)) false 0) 15 (.tuple #[.bool false]) (by kernel_rfl) hr31 ?_
    refine WL.runs 1 [(16, .bool false)] (fun _ => by kernel_rfl) ?_
    refine WL.done rfl ?_
    refine QX.then_normal (hK29 _ _ ?_)
    refine WC.seq (fun K41 hK42 => ?_)
    refine WC.cond_false rfl ?_
    refine WC.exit ?_
    refine QX.then_exit ?_
    refine QX.then_exit ?_
    refine QX.block_hit ?_
    refine QX.then_normal (hK10 _ _ ?_)
    refine WC.seq (fun K43 hK44 => ?_)
    refine WC.region ?_
    refine WL.runs 4 [(3, .bool found), (2, .int .i64 least), (28, .bool found), (27, .int .i64 least)] (fun _ => by kernel_rfl) ?_
    refine WL.done rfl ?_
    refine QX.then_normal (hK44 _ _ ?_)
    refine WC.ret ?_
    refine (hret _ _ _ rfl ?_).1
    clear hN hret hret' hK44 hK42 hK29 hK12 hK10 hK8 hK6 hK4 hK2
    have hpm_ := It.perm_end hit21 hl30
    obtain ⟨hA_, hB_⟩ := leastI_end hle hpm_
    exact ⟨by show Ending.returned (.tuple #[.int .i64 least, .bool found]) = _; rw [hA_, hB_], hC27.fr.shrink (by intro x hx; simp only [List.mem_cons] at hx; rcases hx with rfl | rfl | rfl | hx; exact (hC27.get 0 rfl).trans hp_.symm; exact (hC27.get 1 rfl).trans hg_.symm; exact (hC27.get 2 rfl).trans hmb_.symm; exact (same_m25 x hx).2)⟩
  · -- one more
    refine WL.sem (Instr.next (.pointer (some ⟨it13, 0, none⟩)) false 0) 15 (.tuple #[.bool true, .int .i64 p32.1, .int .i64 p32.2]) (by kernel_rfl) hr31 ?_
    have hf45 := SameF.fr same_m25 hF37 (hC27.apartM 0 3 rfl rfl)
    refine WL.runs 1 [(16, .bool true)] (fun _ => by kernel_rfl) ?_
    refine WL.done rfl ?_
    refine QX.then_normal (hK29 _ _ ?_)
    refine WC.seq (fun K46 hK47 => ?_)
    refine WC.cond_true rfl ?_
    refine WC.skip ?_
    refine QX.then_normal (hK47 _ _ ?_)
    refine WC.block ?_
    refine WC.seq (fun K48 hK49 => ?_)
    refine WC.region ?_
    refine WL.sem (Instr.entry (.pointer (some ⟨it13, 0, none⟩))) 17 (.tuple #[.int .i64 p32.1, .int .i64 p32.2]) (by kernel_rfl) (hent40 _ (hC38.get 3 rfl) (hC38.get 2 rfl)) ?_
    refine WL.runs 2 [(7, .int .i64 p32.2), (18, .int .i64 p32.2)] (fun _ => by kernel_rfl) ?_
    refine WL.done rfl ?_
    refine QX.then_normal (hK49 _ _ ?_)
    refine WC.seq (fun K50 hK51 => ?_)
    refine WC.region ?_
    refine WL.runs 3 [(21, .bool !found), (20, .bool !found), (19, .bool found)] (fun _ => by kernel_rfl) ?_
    refine WL.test_at 21 (!found) rfl (fun t52b => ?_) (fun t52b => ?_)
    · -- !found = true: true
      have t52 : found = false := by first | (simpa only [Bool.not_eq_true', Bool.not_eq_false'] using t52b) | simpa using t52b
      refine WL.runs 4 [(25, .bool true), (24, undef), (23, undef), (22, undef)] (fun _ => by kernel_rfl) ?_
      refine WL.done rfl ?_
      refine QX.then_normal (hK51 _ _ ?_)
      refine WC.cond_true rfl ?_
      refine WC.region ?_
      refine WL.runs 3 [(5, .bool true), (4, .int .i64 p32.2), (26, .int .i64 p32.2)] (fun _ => by kernel_rfl) ?_
      refine WL.done rfl ?_
      refine QX.block_normal ?_
      refine QX.then_normal ?_
      have hC53 := hC38.pick [0, 1, 2, 3] [0] rfl rfl
      refine fun a_ ha_ => hK23 _ _ _ ?_ ⟨seen35, (vis21 ++ [p32]), (l33 ++ l34), p32.2, true, rfl, rfl, hC53, hf45, hit39, leastI_new hle (.inl (by simpa using t52))⟩ a_ (ha_.weaken (sub_of ⟨rfl, rfl, rfl, rfl, rfl, rfl, trivial⟩))
      rw [hl30]; simp
    · -- !found = true: false
      have t52 : found = true := by first | (simpa only [Bool.not_eq_true', Bool.not_eq_false'] using t52b) | simpa using t52b
      refine WL.runs 4 [(25, .bool (decide (p32.2 < least))), (24, .bool (decide (p32.2 < least))), (23, .int .i64 least), (22, .int .i64 p32.2)] (fun _ => by kernel_rfl) ?_
      refine WL.done rfl ?_
      refine QX.then_normal (hK51 _ _ ?_)
      refine WC.test_at 25 (decide (p32.2 < least)) rfl (fun t54b => ?_) (fun t54b => ?_)
      · -- p32.2 < least: true
        have t54 : p32.2 < least := by have q_ := of_decide_eq_true t54b; omega
        refine WC.cond_true rfl ?_
        refine WC.region ?_
        refine WL.runs 3 [(5, .bool true), (4, .int .i64 p32.2), (26, .int .i64 p32.2)] (fun _ => by kernel_rfl) ?_
        refine WL.done rfl ?_
        refine QX.block_normal ?_
        refine QX.then_normal ?_
        have hC55 := hC38.pick [0, 1, 2, 3] [0] rfl rfl
        refine fun a_ ha_ => hK23 _ _ _ ?_ ⟨seen35, (vis21 ++ [p32]), (l33 ++ l34), p32.2, true, rfl, rfl, hC55, hf45, hit39, leastI_new hle (.inr (by simpa using t54b))⟩ a_ (ha_.weaken (sub_of ⟨rfl, rfl, rfl, rfl, rfl, rfl, trivial⟩))
        rw [hl30]; simp
      · -- p32.2 < least: false
        have t54 : least ≤ p32.2 := by have q_ := of_decide_eq_false t54b; omega
        refine WC.cond_false rfl ?_
        refine WC.skip ?_
        refine QX.block_normal ?_
        refine QX.then_normal ?_
        have hC56 := hC38.pick [0, 1, 2, 3] [0] rfl rfl
        refine fun a_ ha_ => hK23 _ _ _ ?_ ⟨seen35, (vis21 ++ [p32]), (l33 ++ l34), least, found, rfl, rfl, hC56, hf45, hit39, leastI_old hle (by simpa using t52) (by simpa using t54b)⟩ a_ (ha_.weaken (sub_of ⟨rfl, rfl, rfl, rfl, rfl, rfl, trivial⟩))
        rw [hl30]; simp

theorem New_ct (N : Nat) (w : World) (h0 : 1 ≤ N) (h1 : N ≤ 1024) : Calls Try.prog 10 #[.int .i64 (N : Int)] w fun e w' => ∃ p F, e = .returned (.tuple #[.pointer (some ⟨p, 0, none⟩), .nilIface]) ∧ Fr w w' [] ∧ whAt w' F p N [] 0 ∧ ∀ x ∈ F, w.heap.size ≤ x := by
  refine enterD (n := 16) Try.func10 rfl rfl (Nat.le_of_ble_eq_true rfl) ?_
  intro Q0 hN hret hret'
  have hC := Cx.start w
  refine WC.seq (fun K1 hK2 => ?_)
  refine WC.region ?_
  refine WL.runs 2 [(3, .nilIface), (2, .pointer none)] (fun _ => by kernel_rfl) ?_
  refine WL.done rfl ?_
  refine QX.then_normal (hK2 _ _ ?_)
  refine WC.seq (fun K3 hK4 => ?_)
  refine WC.seq (fun K5 hK6 => ?_)
  refine WC.region ?_
  refine WL.runs 3 [(6, .bool (decide ((N : Int) < 1))), (5, .bool (decide ((N : Int) < 1))), (4, .int .i64 (N : Int))] (fun _ => by kernel_rfl) ?_
  refine WL.know 6 (.bool (decide ((N : Int) < 1))) (.bool false) rfl (congrArg Value.bool (by simp; omega)) ?_
  refine WL.runs 3 [(9, .bool (decide ((N : Int) > 1024))), (8, .bool (decide ((N : Int) > 1024))), (7, .int .i64 (N : Int))] (fun _ => by kernel_rfl) ?_
  refine WL.done rfl ?_
  refine QX.then_normal (hK6 _ _ ?_)
  refine WC.know 9 (.bool (decide ((N : Int) > 1024))) (.bool false) rfl (congrArg Value.bool (by simp; omega)) ?_
  refine WC.cond_false rfl ?_
  refine WC.skip ?_
  refine QX.then_normal (hK4 _ _ ?_)
  refine WC.seq (fun K7 hK8 => ?_)
  refine WC.region ?_
  refine WL.runs 1 [(11, .int .i64 (N : Int))] (fun _ => by kernel_rfl) ?_
  obtain ⟨g9, w10, hr11, hF12, hge13, hC14⟩ := makeN_run (P := Try.prog) hC 59 65 24 N .i64 .i64 (.slice none 0 0) (by kernel_rfl) (by kernel_rfl) rfl (by omega) (by omega) (by simp only [maxLen]; omega)
  have hC15 := hC14
  rw [← rep_enc] at hC15
  refine WL.sem (Instr.makeSlice 59 (.int .i64 (N : Int)) (.int .i64 (N : Int))) 12 (.slice (some ⟨g9, 0, none⟩) N N) (by kernel_rfl) hr11 ?_
  refine WL.newM hC15 (fun b => .map (some b)) (.map #[] 0) 13 (fun _ => by kernel_rfl) (fun g16 w17 hb20 hF18 hC19 => ?_)
  refine WL.runs 1 [(14, .agg #[.slice (some ⟨g9, 0, none⟩) N N, .map (some g16), .int .i64 0])] (fun _ => by kernel_rfl) ?_
  refine WL.newM hC19 (fun b => .pointer (some ⟨b, 0, none⟩)) (.cells #[.slice (some ⟨g9, 0, none⟩) N N, .map (some g16), .int .i64 0] 62) 15 (fun _ => by kernel_rfl) (fun g21 w22 hb25 hF23 hC24 => ?_)
  refine WL.runs 2 [(3, .nilIface), (2, .pointer (some ⟨g21, 0, none⟩))] (fun _ => by kernel_rfl) ?_
  refine WL.done rfl ?_
  refine QX.then_normal (hK8 _ _ ?_)
  refine WC.ret ?_
  refine (hret _ _ _ rfl ?_).1
  clear hN hret hret' hK8 hK6 hK4 hK2
  have hC26 := hC24.addNil
  obtain ⟨F2_, hwh_, hsub_⟩ := wh_close hC26 2 0 1 0 rfl rfl rfl (by rw [rowsF_rep]; rfl) (MapOk.nil ekI evI) (rowsO_rep _ _) (wOk_new h0 h1) (by decide) (by decide) (by decide)
  exact ⟨_, F2_, rfl, hC26.fr, hwh_, fun x_ hx_ => (hsub_ x_ hx_).resolve_left (fun h_ => nomatch h_)⟩

theorem New_no (n : Int) (w : World) (h : n < 1 ∨ 1024 < n) : Calls Try.prog 10 #[.int .i64 n] w fun e w' => e = .returned (.tuple #[.pointer none, .iface 45 (.int .i64 4)]) ∧ Fr w w' [] := by
  refine enterD (n := 16) Try.func10 rfl rfl (Nat.le_of_ble_eq_true rfl) ?_
  intro Q0 hN hret hret'
  have hC := Cx.start w
  refine WC.seq (fun K1 hK2 => ?_)
  refine WC.region ?_
  refine WL.runs 2 [(3, .nilIface), (2, .pointer none)] (fun _ => by kernel_rfl) ?_
  refine WL.done rfl ?_
  refine QX.then_normal (hK2 _ _ ?_)
  refine WC.seq (fun K3 hK4 => ?_)
  refine WC.seq (fun K5 hK6 => ?_)
  refine WC.region ?_
  refine WL.runs 3 [(6, .bool (decide (n < 1))), (5, .bool (decide (n < 1))), (4, .int .i64 n)] (fun _ => by kernel_rfl) ?_
  refine WL.test_at 6 (decide (n < 1)) rfl (fun t7b => ?_) (fun t7b => ?_)
  · -- n < 1: true
    have t7 : n < 1 := by have q_ := of_decide_eq_true t7b; omega
    refine WL.runs 3 [(9, .bool true), (8, undef), (7, undef)] (fun _ => by kernel_rfl) ?_
    refine WL.done rfl ?_
    refine QX.then_normal (hK6 _ _ ?_)
    refine WC.cond_true rfl ?_
    refine WC.seq (fun K8 hK9 => ?_)
    refine WC.region ?_
    refine WL.runs 3 [(3, .iface 45 (.int .i64 4)), (2, .pointer none), (10, .iface 45 (.int .i64 4))] (fun _ => by kernel_rfl) ?_
    refine WL.done rfl ?_
    refine QX.then_normal (hK9 _ _ ?_)
    refine WC.ret ?_
    refine QX.then_ret ?_
    refine (hret _ _ _ rfl ?_).1
    clear hN hret hret' hK9 hK6 hK4 hK2
    exact ⟨rfl, hC.fr⟩
  · -- n < 1: false
    have t7 : (1 : Int) ≤ n := by have q_ := of_decide_eq_false t7b; omega
    refine WL.runs 3 [(9, .bool (decide (n > 1024))), (8, .bool (decide (n > 1024))), (7, .int .i64 n)] (fun _ => by kernel_rfl) ?_
    refine WL.done rfl ?_
    refine QX.then_normal (hK6 _ _ ?_)
    refine WC.test_at 9 (decide (n > 1024)) rfl (fun t10b => ?_) (fun t10b => ?_)
    · -- n > 1024: true
      have t10 : (1024 : Int) < n := by have q_ := of_decide_eq_true t10b; omega
      refine WC.cond_true rfl ?_
      refine WC.seq (fun K11 hK12 => ?_)
      refine WC.region ?_
      refine WL.runs 3 [(3, .iface 45 (.int .i64 4)), (2, .pointer none), (10, .iface 45 (.int .i64 4))] (fun _ => by kernel_rfl) ?_
      refine WL.done rfl ?_
      refine QX.then_normal (hK12 _ _ ?_)
      refine WC.ret ?_
      refine QX.then_ret ?_
      refine (hret _ _ _ rfl ?_).1
      clear hN hret hret' hK12 hK6 hK4 hK2
      exact ⟨rfl, hC.fr⟩
    · -- n > 1024: false
      have t10 : n ≤ 1024 := by have q_ := of_decide_eq_false t10b; omega
      refine WC.cond_false rfl ?_
      refine WC.skip ?_
      refine QX.then_normal (hK4 _ _ ?_)
      refine WC.seq (fun K13 hK14 => ?_)
      refine WC.region ?_
      refine WL.runs 1 [(11, .int .i64 n)] (fun _ => by kernel_rfl) ?_
      exfalso; omega

theorem Set_nil (a : Int) (A : Option Addr) (n c : Nat) (w : World) : Calls Try.prog 11 #[.pointer none, .int .i64 a, .slice A n c] w fun e w' => e = .returned (.iface 45 (.int .i64 4)) ∧ Fr w w' [] := by
  refine enterD (n := 60) Try.func11 rfl rfl (Nat.le_of_ble_eq_true rfl) ?_
  intro Q0 hN hret hret'
  have hC := Cx.start w
  refine WC.seq (fun K1 hK2 => ?_)
  refine WC.region ?_
  refine WL.runs 1 [(6, .nilIface)] (fun _ => by kernel_rfl) ?_
  refine WL.done rfl ?_
  refine QX.then_normal (hK2 _ _ ?_)
  refine WC.seq (fun K3 hK4 => ?_)
  refine WC.seq (fun K5 hK6 => ?_)
  refine WC.region ?_
  refine WL.runs 10 [(19, .bool true), (18, undef), (17, undef), (16, .bool true), (15, .bool true), (14, undef), (13, undef), (12, .bool true), (11, .bool true), (10, .pointer none)] (fun _ => by kernel_rfl) ?_
  refine WL.done rfl ?_
  refine QX.then_normal (hK6 _ _ ?_)
  refine WC.cond_true rfl ?_
  refine WC.seq (fun K7 hK8 => ?_)
  refine WC.region ?_
  refine WL.runs 2 [(6, .iface 45 (.int .i64 4)), (20, .iface 45 (.int .i64 4))] (fun _ => by kernel_rfl) ?_
  refine WL.done rfl ?_
  refine QX.then_normal (hK8 _ _ ?_)
  refine WC.ret ?_
  refine QX.then_ret ?_
  refine (hret _ _ _ rfl ?_).1
  clear hN hret hret' hK8 hK6 hK4 hK2
  exact ⟨rfl, hC.fr⟩

theorem Set_no (p : Nat) (a : Int) (A : Option Addr) (n c : Nat) (w : World) (h : a < 0 ∨ 1099511627776 < a) : Calls Try.prog 11 #[.pointer (some ⟨p, 0, none⟩), .int .i64 a, .slice A n c] w fun e w' => e = .returned (.iface 45 (.int .i64 4)) ∧ Fr w w' [] := by
  refine enterD (n := 60) Try.func11 rfl rfl (Nat.le_of_ble_eq_true rfl) ?_
  intro Q0 hN hret hret'
  have hC := Cx.start w
  refine WC.seq (fun K1 hK2 => ?_)
  refine WC.region ?_
  refine WL.runs 1 [(6, .nilIface)] (fun _ => by kernel_rfl) ?_
  refine WL.done rfl ?_
  refine QX.then_normal (hK2 _ _ ?_)
  refine WC.seq (fun K3 hK4 => ?_)
  refine WC.seq (fun K5 hK6 => ?_)
  refine WC.region ?_
  refine WL.runs 7 [(16, .bool (decide (a < 0))), (15, .bool (decide (a < 0))), (14, .bool (decide (a < 0))), (13, .int .i64 a), (12, .bool false), (11, .bool false), (10, .pointer (some ⟨p, 0, none⟩))] (fun _ => by kernel_rfl) ?_
  refine WL.test_at 16 (decide (a < 0)) rfl (fun t7b => ?_) (fun t7b => ?_)
  · -- a < 0: true
    have t7 : a < 0 := by have q_ := of_decide_eq_true t7b; omega
    refine WL.runs 3 [(19, .bool true), (18, undef), (17, undef)] (fun _ => by kernel_rfl) ?_
    refine WL.done rfl ?_
    refine QX.then_normal (hK6 _ _ ?_)
    refine WC.cond_true rfl ?_
    refine WC.seq (fun K8 hK9 => ?_)
    refine WC.region ?_
    refine WL.runs 2 [(6, .iface 45 (.int .i64 4)), (20, .iface 45 (.int .i64 4))] (fun _ => by kernel_rfl) ?_
    refine WL.done rfl ?_
    refine QX.then_normal (hK9 _ _ ?_)
    refine WC.ret ?_
    refine QX.then_ret ?_
    refine (hret _ _ _ rfl ?_).1
    clear hN hret hret' hK9 hK6 hK4 hK2
    exact ⟨rfl, hC.fr⟩
  · -- a < 0: false
    have t7 : (0 : Int) ≤ a := by have q_ := of_decide_eq_false t7b; omega
    refine WL.runs 3 [(19, .bool (decide (a > 1099511627776))), (18, .bool (decide (a > 1099511627776))), (17, .int .i64 a)] (fun _ => by kernel_rfl) ?_
    refine WL.done rfl ?_
    refine QX.then_normal (hK6 _ _ ?_)
    refine WC.test_at 19 (decide (a > 1099511627776)) rfl (fun t10b => ?_) (fun t10b => ?_)
    · -- a > 1099511627776: true
      have t10 : (1099511627776 : Int) < a := by have q_ := of_decide_eq_true t10b; omega
      refine WC.cond_true rfl ?_
      refine WC.seq (fun K11 hK12 => ?_)
      refine WC.region ?_
      refine WL.runs 2 [(6, .iface 45 (.int .i64 4)), (20, .iface 45 (.int .i64 4))] (fun _ => by kernel_rfl) ?_
      refine WL.done rfl ?_
      refine QX.then_normal (hK12 _ _ ?_)
      refine WC.ret ?_
      refine QX.then_ret ?_
      refine (hret _ _ _ rfl ?_).1
      clear hN hret hret' hK12 hK6 hK4 hK2
      exact ⟨rfl, hC.fr⟩
    · -- a > 1099511627776: false
      have t10 : a ≤ 1099511627776 := by have q_ := of_decide_eq_false t10b; omega
      refine WC.cond_false rfl ?_
      refine WC.skip ?_
      refine QX.then_normal (hK4 _ _ ?_)
      refine WC.seq (fun K13 hK14 => ?_)
      refine WC.seq (fun K15 hK16 => ?_)
      refine WC.region ?_
      refine WL.runs 1 [(21, .slice A n c)] (fun _ => by kernel_rfl) ?_
      exfalso; omega

theorem Cancel_n (F : List Nat) (p N : Nat) (m : List (Int × Int)) (hand : Int) (A : Option Addr) (n c : Nat) (ks : List Int) (w : World) (ht : whAt w F p N m hand) (hks : Rd w 1 (Go.Tw.encI .i64) A ks) (hn : ks.length = n) (hkl : ks.length ≤ 9223372036854775807) (hAF : ∀ b off, A = some ⟨b, off, none⟩ → ks ≠ [] → b ∉ F) : Calls Try.prog 15 #[.pointer (some ⟨p, 0, none⟩), .slice A n c] w fun e w' => ∃ F2, e = .returned (.int .i64 (canN m ks : Int)) ∧ Fr w w' F ∧ whAt w' F2 p N (canL m ks) hand ∧ ∀ x ∈ F2, x ∈ F ∨ w.heap.size ≤ x := by subst hn; exact Cancel_ct F p N m hand A c ks w ht hks hkl hAF
set_option maxHeartbeats 2000000 in
theorem Set_ct (F : List Nat) (p N : Nat) (m : List (Int × Int)) (hand : Int) (a : Int) (A : Option Addr) (c : Nat) (ks : List Int) (w : World) (ht : whAt w F p N m hand) (ha0 : 0 ≤ a) (ha1 : a ≤ 1099511627776) (hks : Rd w 1 (Go.Tw.encI .i64) A ks) (hkl : m.length + ks.length ≤ 1099511627776) (hAF : ∀ b off, A = some ⟨b, off, none⟩ → ks ≠ [] → b ∉ F) : Calls Try.prog 11 #[.pointer (some ⟨p, 0, none⟩), .int .i64 a, .slice A ks.length c] w fun e w' => ∃ F2, e = .returned .nilIface ∧ Fr w w' F ∧ whAt w' F2 p N (setL m a ks) (setH hand a ks) ∧ ∀ x ∈ F2, x ∈ F ∨ w.heap.size ≤ x := by
  refine enterD (n := 60) Try.func11 rfl rfl (Nat.le_of_ble_eq_true rfl) ?_
  intro Q0 hN hret hret'
  have hC := Cx.start1 w (whAt_lt ht)
  refine WC.seq (fun K1 hK2 => ?_)
  refine WC.region ?_
  refine WL.runs 1 [(6, .nilIface)] (fun _ => by kernel_rfl) ?_
  refine WL.done rfl ?_
  refine QX.then_normal (hK2 _ _ ?_)
  refine WC.seq (fun K3 hK4 => ?_)
  refine WC.seq (fun K5 hK6 => ?_)
  refine WC.region ?_
  refine WL.runs 7 [(16, .bool (decide (a < 0))), (15, .bool (decide (a < 0))), (14, .bool (decide (a < 0))), (13, .int .i64 a), (12, .bool false), (11, .bool false), (10, .pointer (some ⟨p, 0, none⟩))] (fun _ => by kernel_rfl) ?_
  refine WL.know 16 (.bool (decide (a < 0))) (.bool false) rfl (congrArg Value.bool (by simp; omega)) ?_
  refine WL.runs 3 [(19, .bool (decide (a > 1099511627776))), (18, .bool (decide (a > 1099511627776))), (17, .int .i64 a)] (fun _ => by kernel_rfl) ?_
  refine WL.done rfl ?_
  refine QX.then_normal (hK6 _ _ ?_)
  refine WC.know 19 (.bool (decide (a > 1099511627776))) (.bool false) rfl (congrArg Value.bool (by simp; omega)) ?_
  refine WC.cond_false rfl ?_
  refine WC.skip ?_
  refine QX.then_normal (hK4 _ _ ?_)
  refine WC.seq (fun K7 hK8 => ?_)
  refine WC.seq (fun K9 hK10 => ?_)
  refine WC.region ?_
  refine WL.runs 3 [(23, .int .i64 0), (22, .int .i64 (ks.length : Int)), (21, .slice A ks.length c)] (fun _ => by kernel_rfl) ?_
  refine WL.done rfl ?_
  refine QX.then_normal (hK10 _ _ ?_)
  refine WC.block ?_
  refine WC.loop (fun m_ E_ w_ => ∃ (i : Nat) (F5 : List Nat) (m5 : List (Int × Int)), m_ = ks.length - i ∧ E_ = [(0, .pointer (some ⟨p, 0, none⟩)), (1, .int .i64 a), (2, .slice A ks.length c), (21, .slice A ks.length c), (22, .int .i64 (ks.length : Int)), (23, .int .i64 (i : Int))] ∧ Cx w F w_ [] [F5] ∧ whAt w_ F5 p N m5 (setH hand a (ks.take i)) ∧ (i ≤ ks.length ∧ setL m a ks = setL m5 a (ks.drop i) ∧ m5.length ≤ m.length + i)) ⟨_, _, ⟨0, F, m, rfl, rfl, hC, ht, Nat.zero_le _, rfl, Nat.le_refl _⟩, sub_of ⟨rfl, rfl, rfl, rfl, rfl, rfl, trivial⟩⟩ (fun m14 E_ w15 K11 hK12 hI13 => ?_)
  obtain ⟨i, F5, m5, rfl, rfl, hC16, hwh5, hi, hsl, hml5⟩ := hI13
  have hok5_ := whAt_ok hwh5
  refine WC.seq (fun K17 hK18 => ?_)
  refine WC.region ?_
  refine WL.runs 1 [(24, .bool (decide ((i : Int) < (ks.length : Int))))] (fun _ => by kernel_rfl) ?_
  refine WL.done rfl ?_
  refine QX.then_normal (hK18 _ _ ?_)
  refine WC.seq (fun K19 hK20 => ?_)
  refine WC.test_at 24 (decide ((i : Int) < (ks.length : Int))) rfl (fun t21b => ?_) (fun t21b => ?_)
  · -- (i : Int) < (ks.length : Int): true
    have t21 : (i : Int) < (ks.length : Int) := by have q_ := of_decide_eq_true t21b; omega
    refine WC.cond_true rfl ?_
    refine WC.skip ?_
    refine QX.then_normal (hK20 _ _ ?_)
    refine WC.seq (fun K22 hK23 => ?_)
    refine WC.block ?_
    refine WC.seq (fun K24 hK25 => ?_)
    refine WC.region ?_
    obtain ⟨e26, he27⟩ := get_some (xs := ks) (i := i) (by omega)
    obtain ⟨b28, o30, hA29, hc31⟩ := hks.at_ _ _ he27
    refine WL.index A ks.length c 25 .i64 (i : Int) b28 o30 i 1 (by kernel_rfl) hA29 (by omega) (by omega) (o30 + i) (by first | (simp; done) | omega) ?_
    refine WL.load 3 (.pointer (some ⟨b28, o30 + i, none⟩)) (.int .i64 e26) 26 (by kernel_rfl) (run_load1 rfl (by simpa [Nat.add_assoc] using hC16.fr.cell (hc31 0 _ rfl) (hAF _ _ hA29 (ne_of_get he27)))) ?_
    refine WL.runs 1 [(8, .int .i64 e26)] (fun _ => by kernel_rfl) ?_
    refine WL.done rfl ?_
    refine QX.then_normal (hK25 _ _ ?_)
    refine WC.seq (fun K32 hK33 => ?_)
    refine WC.region ?_
    refine WL.runs 2 [(28, .int .i64 e26), (27, .pointer (some ⟨p, 0, none⟩))] (fun _ => by kernel_rfl) ?_
    refine WL.newM hC16 (fun b => .slice (some ⟨b, 0, none⟩) 1 1) (.cells #[.int .i64 e26] 3) 29 (fun _ => by kernel_rfl) (fun g34 w35 hb38 hF36 hC37 => ?_)
    have hf39 := whAt_fr hwh5 hF36 (by simp)
    refine WL.call rfl rfl rfl rfl rfl (by kernel_rfl) (Cancel_n F5 p N m5 (setH hand a (ks.take i)) (some ⟨g34, 0, none⟩) 1 1 [e26] w35 hf39 (Rd.blk (hC37.get 0 rfl) (Go.Tw.encI_len _) rfl) rfl (by simp) (fun _ _ e_ _ => by cases e_; exact hC37.notin 0 0 rfl rfl)) ?_
    rintro _ w41 ⟨F44, rfl, hF40, hT43, hsub45⟩
    have hT43' : whAt w41 F44 p N (delL m5 e26) (setH hand a (ks.take i)) := hT43
    have hC42 := hC37.callF 0 rfl hF40 hsub45 (whAt_lt hT43')
    refine ⟨_, rfl, ?_⟩
    refine WL.done rfl ?_
    refine QX.then_normal (hK33 _ _ ?_)
    refine WC.seq (fun K46 hK47 => ?_)
    refine WC.region ?_
    refine WL.runs 2 [(32, .int .i64 a), (31, .pointer (some ⟨p, 0, none⟩))] (fun _ => by kernel_rfl) ?_
    obtain ⟨g48, mb48, rows48, es48, cl48, hp48, hg48, hmb48, hm48, hro48, hw48, rfl, hne48, hni48⟩ := hT43'
    have hC49 := hC42.unF3 0 rfl hp48 hg48 hmb48 hne48 hni48
    refine WL.call rfl rfl rfl rfl rfl (by kernel_rfl) (slot_ct p g48 N a (.map (some mb48)) (.int .i64 (setH hand a (ks.take i))) w41 (hC49.get 1 rfl) hw48.n.1 hw48.n.2 (ha0)) ?_
    rintro _ w51 ⟨rfl, hF50⟩
    refine ⟨_, rfl, ?_⟩
    have hC52 := hC49.call hF50
    have hf53 := rowsO_fr hro48 hF50 (by simp)
    obtain ⟨r54, hr55⟩ := get_some (xs := rows48) (i := (slotN N a)) (slot_lt hw48 _)
    refine WL.runs 1 [(9, .pointer (some ⟨g48, (slotN N a), none⟩))] (fun _ => by kernel_rfl) ?_
    refine WL.done rfl ?_
    refine QX.then_normal (hK47 _ _ ?_)
    refine WC.seq (fun K56 hK57 => ?_)
    refine WC.region ?_
    refine WL.runs 3 [(36, .pointer (some ⟨g48, (slotN N a), none⟩)), (35, .pointer (some ⟨g48, (slotN N a), none⟩)), (34, .pointer (some ⟨g48, (slotN N a), none⟩))] (fun _ => by kernel_rfl) ?_
    refine WL.load 65 (.pointer (some ⟨g48, (slotN N a), none⟩)) (.slice r54.A r54.ts.length r54.c) 37 (by kernel_rfl) (run_load1 rfl (by simpa [Nat.add_assoc] using Rd.cell (Rd.blk (hC52.get 2 rfl) encR_len rfl) rfl hr55 0 _ rfl)) ?_
    refine WL.runs 3 [(40, .agg #[.int .i64 e26, .int .i64 a]), (39, .int .i64 a), (38, .int .i64 e26)] (fun _ => by kernel_rfl) ?_
    refine WL.newM hC52 (fun b => .slice (some ⟨b, 0, none⟩) 1 1) (.cells #[.int .i64 e26, .int .i64 a] 67) 41 (fun _ => by kernel_rfl) (fun g58 w59 hb62 hF60 hC61 => ?_)
    have hf63 := rowsO_fr hf53 hF60 (by simp)
    have hrl_ := wOk.row_len hw48 hr55
    have hdl_ := canL_len (m := m5) e26
    obtain ⟨v64, w65, hr66, ho67, hF68, hsub69⟩ := app_run0 (P := Try.prog) 65 65 67 2 16 r54.ts.length 1 1 (some ⟨g58, 0, none⟩) (by kernel_rfl) (rowsO_get hf63 hr55) ([(e26, a)].flatMap tmC) rfl (Rd.src_n (Rd.blk (hC61.get 4 rfl) tmC_len rfl) tmC_len (by decide) rfl) rfl (by simp only [maxLen]; omega) (by omega)
    obtain ⟨A70, c71, rfl, hle72⟩ := own_form ho67
    have hal_ : (r54.ts ++ [(e26, a)]).length = r54.ts.length + 1 := by simp
    have ho73 : World.ownsRow w65 0 67 2 (.slice A70 (r54.ts ++ [(e26, a)]).length c71) (r54.ts ++ [(e26, a)]).length ((r54.ts ++ [(e26, a)]).flatMap tmC) := by rw [hal_]; exact own_app ho67
    rw [← hal_] at hr66
    obtain ⟨hro74, hsub75⟩ := rowsO_set (r' := (⟨A70, c71, r54.ts ++ [(e26, a)]⟩ : TRow)) hf63 hr55 hF68 ho73 (fun x_ hx_ => (hsub69 x_ (blk_in2 hx_)))
    have hF77 := hF68.mono (fun x_ hx_ => mem_rowsF hr55 hx_)
    have hC76 := hC61.callF 0 rfl hF77 hsub75 (rowsO_lt hro74)
    refine WL.sem (Builtin.append_ #[65, 65] 65 #[.slice r54.A r54.ts.length r54.c, .slice (some ⟨g58, 0, none⟩) 1 1]) 42 (.slice A70 ((r54.ts ++ [(e26, a)]).length) c71) (by kernel_rfl) hr66 ?_
    refine WL.runs 1 [(43, .pointer (some ⟨g48, (slotN N a), none⟩))] (fun _ => by kernel_rfl) ?_
    obtain ⟨w78, hr79, hF80, hC81⟩ := stoML_run Try.prog encR_len hC76 2 rfl (slotN N a) 0 (x := r54) hr55 (⟨A70, c71, r54.ts ++ [(e26, a)]⟩ : TRow) [.slice A70 ((r54.ts ++ [(e26, a)]).length) c71] rfl 65 (.slice A70 ((r54.ts ++ [(e26, a)]).length) c71) ((slotN N a)) rfl rfl rfl (by simp [Nat.add_assoc])
    refine WL.semU (Instr.storeAt 65 (.pointer (some ⟨g48, (slotN N a), none⟩)) (.slice A70 ((r54.ts ++ [(e26, a)]).length) c71)) (by kernel_rfl) hr79 ?_
    have hf82 := rowsO_fr hro74 hF80 (hC76.apartM 0 2 rfl rfl)
    refine WL.done rfl ?_
    refine QX.then_normal (hK57 _ _ ?_)
    refine WC.seq (fun K83 hK84 => ?_)
    refine WC.region ?_
    refine WL.runs 3 [(46, .pointer (some ⟨p, 1, none⟩)), (45, .pointer (some ⟨p, 0, none⟩)), (44, .pointer (some ⟨p, 0, none⟩))] (fun _ => by kernel_rfl) ?_
    refine WL.load 60 (.pointer (some ⟨p, 1, none⟩)) (.map (some mb48)) 47 (by kernel_rfl) (run_ld (hC81.get 1 rfl) rfl) ?_
    refine WL.runs 2 [(49, .int .i64 a), (48, .int .i64 e26)] (fun _ => by kernel_rfl) ?_
    obtain ⟨w85, es86, cl87, hr88, hF89, hC90, hm91⟩ := putM_run (P := Try.prog) (ek := ekI) (ev := evI) hC81 3 rfl (rfl : Program.underlying Try.prog 60 = some (.map 3 3)) keyI' hm48 e26 a
    refine WL.semU (Instr.mapUpdate 60 (.map (some mb48)) (.int .i64 e26) (.int .i64 a)) (by kernel_rfl) hr88 ?_
    have hf92 := rowsO_fr hf82 hF89 (hC81.apartM 0 3 rfl rfl)
    refine WL.done rfl ?_
    refine QX.then_normal (hK84 _ _ ?_)
    refine WC.region ?_
    refine WL.runs 4 [(53, .pointer (some ⟨p, 2, none⟩)), (52, .pointer (some ⟨p, 0, none⟩)), (51, .pointer (some ⟨p, 0, none⟩)), (50, .pointer (some ⟨p, 0, none⟩))] (fun _ => by kernel_rfl) ?_
    refine WL.load 3 (.pointer (some ⟨p, 2, none⟩)) (.int .i64 (setH hand a (ks.take i))) 54 (by kernel_rfl) (run_ld (hC90.get 1 rfl) rfl) ?_
    refine WL.runs 1 [(55, .int .i64 a)] (fun _ => by kernel_rfl) ?_
    have hr93 : ∀ w_, Sem.run Try.prog (Builtin.min_ #[3, 3] 3 #[.int .i64 (setH hand a (ks.take i)), .int .i64 a]) w_ = .ok (.int .i64 (min (setH hand a (ks.take i)) a)) w_ := fun w_ => run_minI
    refine WL.sem (Builtin.min_ #[3, 3] 3 #[.int .i64 (setH hand a (ks.take i)), .int .i64 a]) 56 (.int .i64 (min (setH hand a (ks.take i)) a)) (by kernel_rfl) (hr93 _) ?_
    refine WL.runs 2 [(58, .pointer (some ⟨p, 2, none⟩)), (57, .pointer (some ⟨p, 0, none⟩))] (fun _ => by kernel_rfl) ?_
    refine WL.storeM (c' := #[.slice (some ⟨g48, 0, none⟩) N N, .map (some mb48), .int .i64 (min (setH hand a (ks.take i)) a)]) hC90 1 3 p 2 (.int .i64 (min (setH hand a (ks.take i)) a)) (by kernel_rfl) rfl (by kernel_rfl) (fun w94 hF96 hC97 => ?_)
    have hf98 := rowsO_fr hf92 hF96 (hC90.apartM 0 1 rfl rfl)
    have hlk_ := look_del hok5_.2.1 e26
    have hm99 : MapOk ekI evI es86 cl87 (delL m5 e26 ++ [(e26, a)]) := by have h_ := hm91; rw [put_new hlk_] at h_; exact h_
    have hwh100 : whAt w94 (p :: g48 :: mb48 :: rowsF (rows48.set (slotN N a) (⟨A70, c71, r54.ts ++ [(e26, a)]⟩ : TRow))) p N (delL m5 e26 ++ [(e26, a)]) (min (setH hand a (ks.take i)) a) := wh_mk hC97 1 0 rfl rfl rfl rfl hm99 hf98 (wOk_put hw48 hlk_ ha0 ha1 hr55 rfl)
    have hC101 := hC97.toF3 1 0 rfl rfl rfl rfl
    refine WL.done rfl ?_
    refine QX.block_normal ?_
    refine QX.then_normal (hK23 _ _ ?_)
    refine WC.region ?_
    refine WL.runs 1 [(59, .int .i64 (IntKind.i64.wrap ((i : Int) + 1)))] (fun _ => by kernel_rfl) ?_
    refine WL.recast (show (.int .i64 (IntKind.i64.wrap ((i : Int) + 1)) : Value) = .int .i64 ((i : Int) + 1) from by rw [wrap_in_i64 ((i : Int) + 1) (by omega) (by omega)]) ?_
    refine WL.runs 1 [(23, .int .i64 ((i : Int) + 1))] (fun _ => by kernel_rfl) ?_
    refine WL.done rfl ?_
    refine QX.then_normal ?_
    have hC102 := hC101.pick [] [0] rfl rfl
    refine fun a_ ha_ => hK12 _ _ _ ?_ ⟨i + 1, (p :: g48 :: mb48 :: rowsF (rows48.set (slotN N a) (⟨A70, c71, r54.ts ++ [(e26, a)]⟩ : TRow))), (delL m5 e26 ++ [(e26, a)]), rfl, rfl, hC102, by rw [setH_step he27]; exact hwh100, by omega, by rw [hsl, setL_step he27], by rw [List.length_append]; simp only [List.length_cons, List.length_nil]; have q_ := canL_len (m := m5) e26; omega⟩ a_ (ha_.weaken (sub_of ⟨rfl, rfl, rfl, rfl, rfl, rfl, trivial⟩))
    omega
  · -- (i : Int) < (ks.length : Int): false
    have t21 : (ks.length : Int) ≤ (i : Int) := by have q_ := of_decide_eq_false t21b; omega
    refine WC.cond_false rfl ?_
    refine WC.exit ?_
    refine QX.then_exit ?_
    refine QX.then_exit ?_
    refine QX.block_hit ?_
    refine QX.then_normal (hK8 _ _ ?_)
    refine WC.seq (fun K103 hK104 => ?_)
    refine WC.region ?_
    refine WL.runs 1 [(6, .nilIface)] (fun _ => by kernel_rfl) ?_
    refine WL.done rfl ?_
    refine QX.then_normal (hK104 _ _ ?_)
    refine WC.ret ?_
    refine (hret _ _ _ rfl ?_).1
    clear hN hret hret' hK104 hK20 hK18 hK10 hK8 hK6 hK4 hK2
    have hie_ : i = ks.length := by omega
    subst hie_
    rw [List.drop_length] at hsl
    rw [List.take_length] at hwh5
    rw [show setL m5 a [] = m5 from rfl] at hsl
    rw [← hsl] at hwh5
    exact ⟨F5, rfl, hC16.fr, hwh5, fun x_ hx_ => hC16.ownF F5 (by simp) x_ hx_⟩

theorem Set_n (F : List Nat) (p N : Nat) (m : List (Int × Int)) (hand a : Int) (A : Option Addr) (n c : Nat) (ks : List Int) (w : World) (ht : whAt w F p N m hand) (ha0 : 0 ≤ a) (ha1 : a ≤ 1099511627776) (hkl : m.length + ks.length ≤ 1099511627776) (hks : Rd w 1 (Go.Tw.encI .i64) A ks) (hn : ks.length = n) (hAF : ∀ b off, A = some ⟨b, off, none⟩ → ks ≠ [] → b ∉ F) : Calls Try.prog 11 #[.pointer (some ⟨p, 0, none⟩), .int .i64 a, .slice A n c] w fun e w' => ∃ F2, e = .returned .nilIface ∧ Fr w w' F ∧ whAt w' F2 p N (setL m a ks) (setH hand a ks) ∧ ∀ x ∈ F2, x ∈ F ∨ w.heap.size ≤ x := by subst hn; exact Set_ct F p N m hand a A c ks w ht ha0 ha1 hks hkl hAF
end Go.Proofs.Ytkafccgbagbncaa
