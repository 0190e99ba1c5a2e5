/- Contracts of functions of the program, each proved by a walk through its code; conditions stand in the statements. -/
import Derived.Test.YtkafccgbagbncaaWhA10
namespace Go.Proofs.Ytkafccgbagbncaa
set_option linter.unusedSimpArgs false
set_option linter.unusedVariables false
set_option linter.unusedSectionVars false
open Go Go.RowKit Go.Tw
set_option linter.unusedVariables false
set_option maxRecDepth 20000
/-! ### a wheel -/
def whAt (w : World) (F : List Nat) (p N : Nat) (m : List (Int × Int)) (hand : Int) : Prop :=
  ∃ (g mb : Nat) (rows : List TRow) (es : Array MapEntry) (cl : Nat), w.heap[p]? = some (.cells #[.slice (some ⟨g, 0, none⟩) N N, .map (some mb), .int .i64 hand] 62 (0, 0)) ∧ w.heap[g]? = some (.cells (rows.flatMap encR).toArray 65 (0, 0)) ∧ w.heap[mb]? = some (.map es cl) ∧ MapOk ekI evI es cl m ∧ rowsO w rows ∧ wOk N rows m
    ∧ F = p :: g :: mb :: rowsF rows ∧ (p ≠ g ∧ p ≠ mb ∧ g ≠ mb) ∧ (p ∉ rowsF rows ∧ g ∉ rowsF rows ∧ mb ∉ rowsF rows)
theorem whAt_lt {w : World} {F : List Nat} {p N : Nat} {m : List (Int × Int)} {hand : Int} (h : whAt w F p N m hand) : ∀ x ∈ F, x < w.heap.size := by
  obtain ⟨g, mb, rows, es, cl, h1, h2, h3, h4, h5, h6, rfl, _⟩ := h
  intro x hx
  simp only [List.mem_cons] at hx
  rcases hx with rfl | rfl | rfl | hx
  · exact lt_of_heap h1
  · exact lt_of_heap h2
  · exact lt_of_heap h3
  · exact rowsO_lt h5 x hx
theorem whAt_fr {w w' : World} {F : List Nat} {p N : Nat} {m : List (Int × Int)} {hand : Int} {G : List Nat} (h : whAt w F p N m hand) (hf : Fr w w' G) (hd : ∀ x ∈ F, x ∉ G) : whAt w' F p N m hand := by
  obtain ⟨g, mb, rows, es, cl, h1, h2, h3, h4, h5, h6, rfl, h7⟩ := h
  exact ⟨g, mb, rows, es, cl, hf.has h1 (hd p (by simp)), hf.has h2 (hd g (by simp)), hf.has h3 (hd mb (by simp)), h4, rowsO_fr h5 hf (fun x hx => hd x (by simp [hx])), h6, rfl, h7⟩
theorem whAt_ok {w : World} {F : List Nat} {p N : Nat} {m : List (Int × Int)} {hand : Int} (h : whAt w F p N m hand) : (1 ≤ N ∧ N ≤ 1024) ∧ (m.map (·.1)).Nodup ∧ ∀ t ∈ m, 0 ≤ t.2 ∧ t.2 ≤ 1099511627776 := by
  obtain ⟨g, mb, rows, es, cl, h1, h2, h3, h4, h5, h6, _⟩ := h
  exact ⟨h6.n, h6.keys, h6.pos⟩
theorem Cx.openW {w : World} {p g mb : Nat} {o1 o2 o3 : Obj} {R : List Nat} (h1 : w.heap[p]? = some o1) (h2 : w.heap[g]? = some o2) (h3 : w.heap[mb]? = some o3) (hR : ∀ x ∈ R, x < w.heap.size) (hn : p ≠ g ∧ p ≠ mb ∧ g ≠ mb) (hd : p ∉ R ∧ g ∉ R ∧ mb ∉ R) : Cx w (p :: g :: mb :: R) w [(p, o1), (g, o2), (mb, o3)] [R] := by
  refine ⟨.refl _ _, ?_, ?_, by simp, ?_, by simpa using hR, ?_, ?_⟩
  · simp only [List.mem_cons, List.not_mem_nil, or_false, forall_eq_or_imp, forall_eq]; exact ⟨h1, h2, h3⟩
  · simp only [List.map_cons, List.map_nil, List.nodup_cons, List.mem_cons, List.not_mem_nil, or_false, not_or, not_false_eq_true, List.nodup_nil, and_true]
    exact ⟨⟨hn.1, hn.2.1⟩, hn.2.2⟩
  · simp only [List.mem_cons, List.not_mem_nil, or_false, forall_eq, forall_eq_or_imp]; exact hd
  · simp
  · simp only [List.mem_cons, List.not_mem_nil, or_false, forall_eq]; exact fun x hx => .inl (by simp [hx])
theorem wh_close {w0 w : World} {F0 : List Nat} {M : List (Nat × Obj)} {Fs : List (List Nat)} (hC : Cx w0 F0 w M Fs) {p g mb N : Nat} {rows : List TRow} {es : Array MapEntry} {cl : Nat} {m : List (Int × Int)} {hand : Int} (k1 k2 k3 j : Nat)
    (h1 : M[k1]? = some (p, .cells #[.slice (some ⟨g, 0, none⟩) N N, .map (some mb), .int .i64 hand] 62 (0, 0))) (h2 : M[k2]? = some (g, .cells (rows.flatMap encR).toArray 65 (0, 0))) (h3 : M[k3]? = some (mb, .map es cl)) (hj : Fs[j]? = some (rowsF rows))
    (hm : MapOk ekI evI es cl m) (ho : rowsO w rows) (hw : wOk N rows m) (d1 : k1 ≠ k2) (d2 : k1 ≠ k3) (d3 : k2 ≠ k3) :
    ∃ F', whAt w F' p N m hand ∧ ∀ x ∈ F', x ∈ F0 ∨ w0.heap.size ≤ x := by
  refine ⟨_, ⟨g, mb, rows, es, cl, hC.get k1 h1, hC.get k2 h2, hC.get k3 h3, hm, ho, hw, rfl, ⟨hC.ne k1 k2 h1 h2 d1, hC.ne k1 k3 h1 h3 d2, hC.ne k2 k3 h2 h3 d3⟩, hC.notin j k1 hj h1, hC.notin j k2 hj h2, hC.notin j k3 hj h3⟩, fun x hx => ?_⟩
  simp only [List.mem_cons] at hx
  rcases hx with rfl | rfl | rfl | hx
  · exact hC.new_ge k1 h1
  · exact hC.new_ge k2 h2
  · exact hC.new_ge k3 h3
  · exact hC.ownF _ (List.mem_of_getElem? hj) x hx
theorem slot_lt {N : Nat} {L : List TRow} {m : List (Int × Int)} (h : wOk N L m) (v : Int) : slotN N v < L.length := by
  rw [h.len]; exact Nat.mod_lt _ (by have := h.n; omega)
theorem blk_in2 {A : Option Addr} {n c n' c' x : Nat} (h : x ∈ blk (.slice A n c)) : x ∈ blk (.slice A n' c') := by cases A <;> exact h
theorem own_max {w : World} {base e sz n c : Nat} {A : Option Addr} {X : List Value} (h : w.ownsRow base e sz (.slice A n c) n X) : n ≤ 9223372036854775807 := by
  rcases Nat.eq_zero_or_pos n with h0 | h0
  · omega
  · obtain ⟨_, _, _, _, _, h1, h2, _⟩ := own_blkd h h0
    simp only [maxLen] at h2; omega
def canL (m : List (Int × Int)) (ks : List Int) : List (Int × Int) := ks.foldl delL m
def canN : List (Int × Int) → List Int → Nat
  | _, [] => 0
  | m, k :: r => (if (lookL m k).isSome then 1 else 0) + canN (delL m k) r
theorem del_none2 {m : List (Int × Int)} {k : Int} (h : lookL m k = none) : delL m k = m := by
  induction m with
  | nil => rfl
  | cons a r ih =>
    obtain ⟨x, y⟩ := a
    unfold lookL at h
    split at h
    · cases h
    · rename_i e; unfold delL; rw [if_neg e, ih h]
theorem drop_cons {ks : List Int} {i : Nat} {k : Int} (h : ks[i]? = some k) : ks.drop i = k :: ks.drop (i + 1) := by
  obtain ⟨hi, rfl⟩ := List.getElem?_eq_some_iff.1 h
  exact List.drop_eq_getElem_cons hi
theorem canL_keys {m : List (Int × Int)} (h : (m.map (·.1)).Nodup) (ks : List Int) : ((canL m ks).map (·.1)).Nodup := by
  induction ks generalizing m with
  | nil => exact h
  | cons k r ih => exact ih (delL_keys m k h)
theorem canL_look {m : List (Int × Int)} (h : (m.map (·.1)).Nodup) (k : Int) : lookL (canL m [k]) k = none := look_del h k
theorem canL_len {m : List (Int × Int)} (k : Int) : (delL m k).length ≤ m.length := by
  induction m with
  | nil => exact Nat.le_refl _
  | cons a r ih =>
    obtain ⟨x, y⟩ := a
    unfold delL
    split
    · simp
    · simp only [List.length_cons]; omega
def setL (m : List (Int × Int)) (at_ : Int) (ks : List Int) : List (Int × Int) := ks.foldl (fun m k => delL m k ++ [(k, at_)]) m
def setH (hand at_ : Int) (ks : List Int) : Int := if ks = [] then hand else min hand at_
theorem setL_len {m : List (Int × Int)} {at_ : Int} (ks : List Int) : (setL m at_ ks).length ≤ m.length + ks.length := by
  induction ks generalizing m with
  | nil => exact Nat.le_refl _
  | cons k r ih =>
    have h1 := ih (m := delL m k ++ [(k, at_)])
    have h2 := canL_len (m := m) k
    simp only [setL, List.foldl_cons, List.length_append, List.length_cons, List.length_nil] at h1 ⊢
    omega
theorem ne_of_get {α : Type} {xs : List α} {i : Nat} {e : α} (h : xs[i]? = some e) : xs ≠ [] := fun h0 => by rw [h0] at h; cases h
theorem rd_lt {α : Type} {w : World} {sz : Nat} {enc : α → List Value} {A : Option Addr} {xs : List α} (h : Rd w sz enc A xs) (hp : ∀ x, 0 < (enc x).length) {b off : Nat} (hA : A = some ⟨b, off, none⟩) (hne : xs ≠ []) : b < w.heap.size := by
  subst hA
  cases xs with
  | nil => exact absurd rfl hne
  | cons x r =>
    obtain ⟨b', off', hA', hc⟩ := h.at_ 0 x rfl
    have h0 := hc 0 ((enc x)[0]'(hp x)) (by simp [hp x])
    cases hA'
    rcases Nat.lt_or_ge b w.heap.size with h' | h'
    · exact h'
    · simp [World.cell?, Array.getElem?_eq_none h'] at h0
theorem slot_mod {a : Int} {N : Nat} (h : 0 ≤ a) : Int.tmod a (N : Int) = ((slotN N a : Nat) : Int) := by
  rw [Int.tmod_eq_emod_of_nonneg h]
  unfold slotN
  rw [Int.natCast_emod, Int.toNat_of_nonneg h]
theorem slotN_lt {a : Int} {N : Nat} (h : 1 ≤ N) : slotN N a < N := Nat.mod_lt _ (by omega)
theorem slot_ct (p g N : Nat) (a : Int) (x1 x2 : Value) (w : World) (hp_ : w.heap[p]? = some (.cells #[.slice (some ⟨g, 0, none⟩) N N, x1, x2] 62 (0, 0))) (hN0 : 1 ≤ N) (hN1 : N ≤ 1024) (h0 : 0 ≤ a) : Calls Try.prog 26 #[.pointer (some ⟨p, 0, none⟩), .int .i64 a] w fun e w' => e = .returned (.pointer (some ⟨g, slotN N a, none⟩)) ∧ Fr w w' [] := by
  refine enterD (n := 17) Try.func26 rfl rfl (Nat.le_of_ble_eq_true rfl) ?_
  intro Q0 hN hret hret'
  have hsl_ := slotN_lt (a := a) hN0
  have hC := Cx.startMs w [(p, .cells #[.slice (some ⟨g, 0, none⟩) N N, x1, x2] 62)] (by simp) (by simp [hp_])
  refine WC.seq (fun K1 hK2 => ?_)
  refine WC.region ?_
  refine WL.runs 1 [(4, .pointer none)] (fun _ => by kernel_rfl) ?_
  refine WL.done rfl ?_
  refine QX.then_normal (hK2 _ _ ?_)
  refine WC.seq (fun K3 hK4 => ?_)
  refine WC.drawC hC [] (by kernel_rfl) (fun w5 hF6 hC7 hS8 => ?_)
  have hf9 := (Fr.refl w []).trans hF6 (by simp)
  refine WD.pure (NoPanic.then hN) 0 5 (.pointer (some ⟨p, 0, none⟩)) (by kernel_rfl) (fun _ => by kernel_rfl) hS8 ?_
  refine WD.pure (NoPanic.then hN) 1 6 (.pointer (some ⟨p, 0, none⟩)) (by kernel_rfl) (fun _ => by kernel_rfl) hS8 ?_
  refine WD.pure (NoPanic.then hN) 2 7 (.pointer (some ⟨p, 0, none⟩)) (by kernel_rfl) (fun _ => by kernel_rfl) hS8 ?_
  refine WD.pure (NoPanic.then hN) 4 9 (.int .i64 a) (by kernel_rfl) (fun _ => by kernel_rfl) hS8 ?_
  refine WD.pure (NoPanic.then hN) 5 10 (.pointer (some ⟨p, 0, none⟩)) (by kernel_rfl) (fun _ => by kernel_rfl) hS8 ?_
  refine WD.pure (NoPanic.then hN) 6 11 (.pointer (some ⟨p, 0, none⟩)) (by kernel_rfl) (fun _ => by kernel_rfl) hS8 ?_
  refine WD.pure (NoPanic.then hN) 7 12 (.pointer (some ⟨p, 0, none⟩)) (by kernel_rfl) (fun _ => by kernel_rfl) hS8 ?_
  refine WD.load (NoPanic.then hN) 3 59 (.pointer (some ⟨p, 0, none⟩)) (.slice (some ⟨g, 0, none⟩) N N) 8 (by kernel_rfl) (by kernel_rfl) (fun _ hS_ => run_ld (Fr.has hS_ (hC7.get 0 rfl) (by simp)) rfl) hS8 ?_
  refine WD.load (NoPanic.then hN) 8 59 (.pointer (some ⟨p, 0, none⟩)) (.slice (some ⟨g, 0, none⟩) N N) 13 (by kernel_rfl) (by kernel_rfl) (fun _ hS_ => run_ld (Fr.has hS_ (hC7.get 0 rfl) (by simp)) rfl) hS8 ?_
  refine WD.pure (NoPanic.then hN) 9 14 (.int .i64 (N : Int)) (by kernel_rfl) (fun _ => by kernel_rfl) hS8 ?_
  have hr10 : ∀ w_, Sem.run Try.prog (do eqGuard .rem 3 (Operand.tmp 9) (Operand.tmp 14) (.int .i64 a) (.int .i64 (N : Int)); binOp .rem 3 (.int .i64 a) (.int .i64 (N : Int))) w_ = .ok (.int .i64 (Int.tmod a (N : Int))) w_ := fun w_ => (run_rem (by omega))
  refine WD.semP (NoPanic.then hN) 10 (do eqGuard .rem 3 (Operand.tmp 9) (Operand.tmp 14) (.int .i64 a) (.int .i64 (N : Int)); binOp .rem 3 (.int .i64 a) (.int .i64 (N : Int))) 15 (.int .i64 (Int.tmod a (N : Int))) (by kernel_rfl) (by kernel_rfl) (fun _ _ => hr10 _) hS8 ?_
  refine WD.recast (show (.int .i64 (Int.tmod a (N : Int)) : Value) = .int .i64 ((slotN N a : Nat) : Int) from congrArg (Value.int .i64) (slot_mod h0)) ?_
  refine WD.index (NoPanic.then hN) 11 (some ⟨g, 0, none⟩) N N 16 .i64 ((slotN N a : Nat) : Int) g 0 (slotN N a) 1 (by kernel_rfl) (by kernel_rfl) rfl (by omega) (by omega) (slotN N a) (by first | (simp; done) | omega) hS8 ?_
  refine WD.pure (NoPanic.then hN) 12 4 (.pointer (some ⟨g, (slotN N a), none⟩)) (by kernel_rfl) (fun _ => by kernel_rfl) hS8 ?_
  refine WD.done (by kernel_rfl) ?_
  refine QX.then_normal (hK4 _ _ ?_)
  refine WC.ret ?_
  refine (hret _ _ _ rfl ?_).1
  clear hN hret hret' hK4 hK2
  exact ⟨rfl, hf9⟩

set_option maxHeartbeats 2000000 in
theorem Cancel_ct (F : List Nat) (p N : Nat) (m : List (Int × Int)) (hand : Int) (A : Option Addr) (c : Nat) (ks : List Int) (w : World) (ht : whAt w F p N m hand) (hks : Rd w 1 (Go.Tw.encI .i64) A ks) (hkl : ks.length ≤ 9223372036854775807) (hAF : ∀ b off, A = some ⟨b, off, none⟩ → ks ≠ [] → b ∉ F) : Calls Try.prog 15 #[.pointer (some ⟨p, 0, none⟩), .slice A ks.length c] w fun e w' => ∃ F2, e = .returned (.int .i64 (canN m ks : Int)) ∧ Fr w w' F ∧ whAt w' F2 p N (canL m ks) hand ∧ ∀ x ∈ F2, x ∈ F ∨ w.heap.size ≤ x := by
  refine enterD (n := 49) Try.func15 rfl rfl (Nat.le_of_ble_eq_true rfl) ?_
  intro Q0 hN hret hret'
  have ht0 := ht
  obtain ⟨g, mb, rows, es, cl, hp_, hg_, hmb_, hm_, hro_, hw_, rfl, hne_, hni_⟩ := ht
  have hC := Cx.openW hp_ hg_ hmb_ (rowsO_lt hro_) hne_ hni_
  obtain ⟨hN0_, hN1_⟩ := hw_.n
  refine WC.seq (fun K1 hK2 => ?_)
  refine WC.region ?_
  refine WL.runs 1 [(4, .int .i64 0)] (fun _ => by kernel_rfl) ?_
  refine WL.done rfl ?_
  refine QX.then_normal (hK2 _ _ ?_)
  refine WC.seq (fun K3 hK4 => ?_)
  refine WC.seq (fun K5 hK6 => ?_)
  refine WC.region ?_
  refine WL.runs 2 [(12, .bool false), (11, .pointer (some ⟨p, 0, none⟩))] (fun _ => by kernel_rfl) ?_
  refine WL.done rfl ?_
  refine QX.then_normal (hK6 _ _ ?_)
  refine WC.cond_false rfl ?_
  refine WC.skip ?_
  refine QX.then_normal (hK4 _ _ ?_)
  refine WC.seq (fun K7 hK8 => ?_)
  refine WC.region ?_
  refine WL.runs 1 [(5, .int .i64 0)] (fun _ => by kernel_rfl) ?_
  refine WL.done rfl ?_
  refine QX.then_normal (hK8 _ _ ?_)
  refine WC.seq (fun K9 hK10 => ?_)
  refine WC.seq (fun K11 hK12 => ?_)
  refine WC.region ?_
  refine WL.runs 3 [(15, .int .i64 0), (14, .int .i64 (ks.length : Int)), (13, .slice A ks.length c)] (fun _ => by kernel_rfl) ?_
  refine WL.done rfl ?_
  refine QX.then_normal (hK12 _ _ ?_)
  refine WC.block ?_
  refine WC.loop (fun m_ E_ w_ => ∃ (i : Nat) (es5 : Array MapEntry) (cl5 : Nat) (m5 : List (Int × Int)) (rows5 : List TRow) (n5 : Nat), m_ = ks.length - i ∧ E_ = [(0, .pointer (some ⟨p, 0, none⟩)), (1, .slice A ks.length c), (4, .int .i64 0), (5, .int .i64 (n5 : Int)), (13, .slice A ks.length c), (14, .int .i64 (ks.length : Int)), (15, .int .i64 (i : Int))] ∧ Cx w (p :: g :: mb :: rowsF rows) w_ [(p, .cells #[.slice (some ⟨g, 0, none⟩) N N, .map (some mb), .int .i64 hand] 62), (g, .cells (rows5.flatMap encR).toArray 65 (0, 0)), (mb, .map es5 cl5)] [rowsF rows5] ∧ rowsO w_ rows5 ∧ (i ≤ ks.length ∧ MapOk ekI evI es5 cl5 m5 ∧ wOk N rows5 m5 ∧ canL m ks = canL m5 (ks.drop i) ∧ canN m ks = n5 + canN m5 (ks.drop i) ∧ n5 ≤ i)) ⟨_, _, ⟨0, es, cl, m, rows, 0, rfl, rfl, hC, hro_, Nat.zero_le _, hm_, hw_, rfl, by simp, Nat.le_refl _⟩, sub_of ⟨rfl, rfl, rfl, rfl, rfl, rfl, rfl, trivial⟩⟩ (fun m16 E_ w17 K13 hK14 hI15 => ?_)
  obtain ⟨i, es5, cl5, m5, rows5, n5, rfl, rfl, hC18, hro5, hi, hm5, hw5, hcl, hcn, hn5⟩ := hI15
  skip
  refine WC.seq (fun K19 hK20 => ?_)
  refine WC.region ?_
  refine WL.runs 1 [(16, .bool (decide ((i : Int) < (ks.length : Int))))] (fun _ => by kernel_rfl) ?_
  refine WL.done rfl ?_
  refine QX.then_normal (hK20 _ _ ?_)
  refine WC.seq (fun K21 hK22 => ?_)
  refine WC.test_at 16 (decide ((i : Int) < (ks.length : Int))) rfl (fun t23b => ?_) (fun t23b => ?_)
  · -- (i : Int) < (ks.length : Int): true
    have t23 : (i : Int) < (ks.length : Int) := by have q_ := of_decide_eq_true t23b; omega
    refine WC.cond_true rfl ?_
    refine WC.skip ?_
    refine QX.then_normal (hK22 _ _ ?_)
    refine WC.seq (fun K24 hK25 => ?_)
    refine WC.block ?_
    refine WC.seq (fun K26 hK27 => ?_)
    refine WC.region ?_
    obtain ⟨e28, he29⟩ := get_some (xs := ks) (i := i) (by omega)
    obtain ⟨b30, o32, hA31, hc33⟩ := hks.at_ _ _ he29
    refine WL.index A ks.length c 17 .i64 (i : Int) b30 o32 i 1 (by kernel_rfl) hA31 (by omega) (by omega) (o32 + i) (by first | (simp; done) | omega) ?_
    refine WL.load 3 (.pointer (some ⟨b30, o32 + i, none⟩)) (.int .i64 e28) 18 (by kernel_rfl) (run_load1 rfl (by simpa [Nat.add_assoc] using hC18.fr.cell (hc33 0 _ rfl) (by have q_ := hAF _ _ hA31 (ne_of_get he29); simp only [List.mem_cons, List.map_cons, List.map_nil, List.not_mem_nil, not_or, or_false] at q_ ⊢; exact q_))) ?_
    refine WL.newM hC18 (fun b => .pointer (some ⟨b, 0, none⟩)) (.cells #[.int .i64 0] 3) 7 (fun _ => by kernel_rfl) (fun g34 w35 hb38 hF36 hC37 => ?_)
    have hf39 := rowsO_fr hro5 hF36 (by simp)
    refine WL.storeM (c' := #[.int .i64 e28]) hC37 3 3 g34 0 (.int .i64 e28) (by kernel_rfl) rfl (by kernel_rfl) (fun w40 hF42 hC43 => ?_)
    have hf44 := rowsO_fr hf39 hF42 (hC37.apartM 0 3 rfl rfl)
    refine WL.done rfl ?_
    refine QX.then_normal (hK27 _ _ ?_)
    refine WC.seq (fun K45 hK46 => ?_)
    refine WC.drawC hC43 [] (by kernel_rfl) (fun w47 hF48 hC49 hS50 => ?_)
    have hf51 := rowsO_fr hf44 hF48 (by simp)
    refine WD.pure (NoPanic.then (NoPanic.block (NoPanic.then (NoPanic.then (NoPanic.block (NoPanic.then hN)))))) 0 20 (.pointer (some ⟨p, 0, none⟩)) (by kernel_rfl) (fun _ => by kernel_rfl) hS50 ?_
    refine WD.pure (NoPanic.then (NoPanic.block (NoPanic.then (NoPanic.then (NoPanic.block (NoPanic.then hN)))))) 1 21 (.pointer (some ⟨p, 0, none⟩)) (by kernel_rfl) (fun _ => by kernel_rfl) hS50 ?_
    refine WD.pure (NoPanic.then (NoPanic.block (NoPanic.then (NoPanic.then (NoPanic.block (NoPanic.then hN)))))) 2 22 (.pointer (some ⟨p, 1, none⟩)) (by kernel_rfl) (fun _ => by kernel_rfl) hS50 ?_
    refine WD.load (NoPanic.then (NoPanic.block (NoPanic.then (NoPanic.then (NoPanic.block (NoPanic.then hN)))))) 3 60 (.pointer (some ⟨p, 1, none⟩)) (.map (some mb)) 23 (by kernel_rfl) (by kernel_rfl) (fun _ hS_ => run_ld (Fr.has hS_ (hC49.get 0 rfl) (by simp)) rfl) hS50 ?_
    refine WD.load (NoPanic.then (NoPanic.block (NoPanic.then (NoPanic.then (NoPanic.block (NoPanic.then hN)))))) 4 3 (.pointer (some ⟨g34, 0, none⟩)) (.int .i64 e28) 24 (by kernel_rfl) (by kernel_rfl) (fun _ hS_ => run_ld (Fr.has hS_ (hC49.get 3 rfl) (by simp)) rfl) hS50 ?_
    obtain ⟨xv52, hxv53⟩ : ∃ x_, (lookL m5 e28).getD (0 : Int) = x_ := ⟨_, rfl⟩
    obtain ⟨bv54, hbv55⟩ : ∃ b_, (lookL m5 e28).isSome = b_ := ⟨_, rfl⟩
    refine WD.semP (NoPanic.then (NoPanic.block (NoPanic.then (NoPanic.then (NoPanic.block (NoPanic.then hN)))))) 5 (Instr.lookup 60 (.map (some mb)) (.int .i64 e28) true) 25 (.tuple #[.int .i64 xv52, .bool bv54]) (by kernel_rfl) (by kernel_rfl) (fun w_ hS_ => lookM_ok (P := Try.prog) (w := w_) (ek := ekI) (ev := evI) (d := (0 : Int)) (rfl : Program.underlying Try.prog 60 = some (.map 3 3)) keyI' (fun _ => by kernel_rfl) (Fr.has hS_ (hC49.get 2 rfl) (by simp)) hm5 e28 hxv53 hbv55) hS50 ?_
    refine WD.pure (NoPanic.then (NoPanic.block (NoPanic.then (NoPanic.then (NoPanic.block (NoPanic.then hN)))))) 6 19 (.tuple #[.int .i64 xv52, .bool bv54]) (by kernel_rfl) (fun _ => by kernel_rfl) hS50 ?_
    refine WD.pure (NoPanic.then (NoPanic.block (NoPanic.then (NoPanic.then (NoPanic.block (NoPanic.then hN)))))) 7 26 (.int .i64 xv52) (by kernel_rfl) (fun _ => by kernel_rfl) hS50 ?_
    refine WD.pure (NoPanic.then (NoPanic.block (NoPanic.then (NoPanic.then (NoPanic.block (NoPanic.then hN)))))) 8 27 (.bool bv54) (by kernel_rfl) (fun _ => by kernel_rfl) hS50 ?_
    refine WD.pure (NoPanic.then (NoPanic.block (NoPanic.then (NoPanic.then (NoPanic.block (NoPanic.then hN)))))) 9 8 (.int .i64 xv52) (by kernel_rfl) (fun _ => by kernel_rfl) hS50 ?_
    refine WD.pure (NoPanic.then (NoPanic.block (NoPanic.then (NoPanic.then (NoPanic.block (NoPanic.then hN)))))) 10 9 (.bool bv54) (by kernel_rfl) (fun _ => by kernel_rfl) hS50 ?_
    refine WD.done (by kernel_rfl) ?_
    refine QX.then_normal (hK46 _ _ ?_)
    refine WC.seq (fun K56 hK57 => ?_)
    refine WC.seq (fun K58 hK59 => ?_)
    refine WC.region ?_
    refine WL.runs 2 [(29, .bool !bv54), (28, .bool bv54)] (fun _ => by kernel_rfl) ?_
    refine WL.done rfl ?_
    refine QX.then_normal (hK59 _ _ ?_)
    refine WC.test_at 29 (!bv54) rfl (fun t60b => ?_) (fun t60b => ?_)
    · -- !bv54 = true: true
      have t60 : bv54 = false := by first | (simpa only [Bool.not_eq_true', Bool.not_eq_false'] using t60b) | simpa using t60b
      refine WC.cond_true rfl ?_
      refine WC.exit ?_
      refine QX.then_exit ?_
      refine QX.block_hit ?_
      refine QX.then_normal (hK25 _ _ ?_)
      refine WC.region ?_
      refine WL.runs 1 [(47, .int .i64 (IntKind.i64.wrap ((i : Int) + 1)))] (fun _ => by kernel_rfl) ?_
      refine WL.recast (show (.int .i64 (IntKind.i64.wrap ((i : Int) + 1)) : Value) = .int .i64 ((i : Int) + 1) from by rw [wrap_in_i64 ((i : Int) + 1) (by omega) (by omega)]) ?_
      refine WL.runs 1 [(15, .int .i64 ((i : Int) + 1))] (fun _ => by kernel_rfl) ?_
      refine WL.done rfl ?_
      refine QX.then_normal ?_
      have hC61 := hC49.pick [0, 1, 2] [0] rfl rfl
      rw [drop_cons he29] at hcl hcn
      simp only [canL, List.foldl_cons, canN] at hcl hcn
      have hnl_ := (look_none hxv53 (hbv55.trans (by simpa using t60))).1
      refine fun a_ ha_ => hK14 _ _ _ ?_ ⟨i + 1, es5, cl5, m5, rows5, n5, rfl, rfl, hC61, hf51, by omega, hm5, hw5, by rw [del_none2 hnl_] at hcl; exact hcl, by rw [del_none2 hnl_] at hcn; rw [hcn, hnl_]; simp, by omega⟩ a_ (ha_.weaken (sub_of ⟨rfl, rfl, rfl, rfl, rfl, rfl, rfl, trivial⟩))
      omega
    · -- !bv54 = true: false
      have t60 : bv54 = true := by first | (simpa only [Bool.not_eq_true', Bool.not_eq_false'] using t60b) | simpa using t60b
      refine WC.cond_false rfl ?_
      refine WC.skip ?_
      refine QX.then_normal (hK57 _ _ ?_)
      refine WC.seq (fun K62 hK63 => ?_)
      refine WC.region ?_
      refine WL.runs 2 [(31, .int .i64 xv52), (30, .pointer (some ⟨p, 0, none⟩))] (fun _ => by kernel_rfl) ?_
      have hlk_ := look_some hxv53 (hbv55.trans (by simpa using t60))
      have hps_ := hw5.pos _ (look_mem2 hlk_)
      refine WL.call rfl rfl rfl rfl rfl (by kernel_rfl) (slot_ct p g N xv52 (.map (some mb)) (.int .i64 hand) w47 (hC49.get 0 rfl) (by omega) (by omega) (hps_.1)) ?_
      rintro _ w65 ⟨rfl, hF64⟩
      refine ⟨_, rfl, ?_⟩
      have hC66 := hC49.call hF64
      have hf67 := rowsO_fr hf51 hF64 (by simp)
      obtain ⟨r68, hr69⟩ := get_some (xs := rows5) (i := (slotN N xv52)) (slot_lt hw5 _)
      refine WL.runs 1 [(10, .pointer (some ⟨g, (slotN N xv52), none⟩))] (fun _ => by kernel_rfl) ?_
      refine WL.done rfl ?_
      refine QX.then_normal (hK63 _ _ ?_)
      refine WC.seq (fun K70 hK71 => ?_)
      refine WC.region ?_
      refine WL.runs 3 [(35, .pointer (some ⟨g, (slotN N xv52), none⟩)), (34, .pointer (some ⟨g, (slotN N xv52), none⟩)), (33, .pointer (some ⟨g, (slotN N xv52), none⟩))] (fun _ => by kernel_rfl) ?_
      refine WL.load 65 (.pointer (some ⟨g, (slotN N xv52), none⟩)) (.slice r68.A r68.ts.length r68.c) 36 (by kernel_rfl) (run_load1 rfl (by simpa [Nat.add_assoc] using Rd.cell (Rd.blk (hC66.get 1 rfl) encR_len rfl) rfl hr69 0 _ rfl)) ?_
      refine WL.runs 1 [(37, .func (.func 32) #[] #[.pointer (some ⟨g34, 0, none⟩)])] (fun _ => by kernel_rfl) ?_
      refine WL.call rfl rfl rfl rfl rfl (by kernel_rfl) (DeleteFunc_ct g34 e28 r68.A r68.c r68.ts w65 (hC66.get 3 rfl) (fun h_ => hC66.notin 0 3 rfl rfl (mem_rowsF hr69 h_)) (rowsO_get hf67 hr69) (own_max (rowsO_get hf67 hr69))) ?_
      rintro _ w73 ⟨rfl, hF72, ho74⟩
      obtain ⟨hro75, hsub76⟩ := rowsO_set (r' := (⟨r68.A, r68.c, outK e28 r68.ts⟩ : TRow)) hf67 hr69 hF72 ho74 (fun x_ hx_ => .inl (blk_in2 hx_))
      have hC77 := hC66.callF 0 rfl (hF72.mono (fun x_ hx_ => mem_rowsF hr69 hx_)) hsub76 (rowsO_lt hro75)
      refine ⟨_, rfl, ?_⟩
      have hF78 := hF72.mono (fun x_ hx_ => mem_rowsF hr69 hx_)
      refine WL.runs 1 [(39, .pointer (some ⟨g, (slotN N xv52), none⟩))] (fun _ => by kernel_rfl) ?_
      obtain ⟨w79, hr80, hF81, hC82⟩ := stoML_run Try.prog encR_len hC77 1 rfl (slotN N xv52) 0 (x := r68) hr69 (⟨r68.A, r68.c, outK e28 r68.ts⟩ : TRow) [.slice r68.A ((outK e28 r68.ts).length) r68.c] rfl 65 (.slice r68.A ((outK e28 r68.ts).length) r68.c) ((slotN N xv52)) rfl rfl rfl (by simp [Nat.add_assoc])
      refine WL.semU (Instr.storeAt 65 (.pointer (some ⟨g, (slotN N xv52), none⟩)) (.slice r68.A ((outK e28 r68.ts).length) r68.c)) (by kernel_rfl) hr80 ?_
      have hf83 := rowsO_fr hro75 hF81 (hC77.apartM 0 1 rfl rfl)
      refine WL.done rfl ?_
      refine QX.then_normal (hK71 _ _ ?_)
      refine WC.seq (fun K84 hK85 => ?_)
      refine WC.drawC hC82 [mb] (by kernel_rfl) (fun w86 hF87 hC88 hS89 => ?_)
      have hf90 := rowsO_fr hf83 hF87 (by simp)
      refine WD.pure (NoPanic.then (NoPanic.block (NoPanic.then (NoPanic.then (NoPanic.block (NoPanic.then hN)))))) 0 40 (.pointer (some ⟨p, 0, none⟩)) (by kernel_rfl) (fun _ => by kernel_rfl) hS89 ?_
      refine WD.pure (NoPanic.then (NoPanic.block (NoPanic.then (NoPanic.then (NoPanic.block (NoPanic.then hN)))))) 1 41 (.pointer (some ⟨p, 0, none⟩)) (by kernel_rfl) (fun _ => by kernel_rfl) hS89 ?_
      refine WD.pure (NoPanic.then (NoPanic.block (NoPanic.then (NoPanic.then (NoPanic.block (NoPanic.then hN)))))) 2 42 (.pointer (some ⟨p, 1, none⟩)) (by kernel_rfl) (fun _ => by kernel_rfl) hS89 ?_
      refine WD.load (NoPanic.then (NoPanic.block (NoPanic.then (NoPanic.then (NoPanic.block (NoPanic.then hN)))))) 3 60 (.pointer (some ⟨p, 1, none⟩)) (.map (some mb)) 43 (by kernel_rfl) (by kernel_rfl) (fun _ hS_ => run_ld (Fr.has hS_ (hC88.get 0 rfl) (by simpa using hC88.ne 0 2 rfl rfl (by decide))) rfl) hS89 ?_
      refine WD.sem 4 (Instr.loadAt 3 (.pointer (some ⟨g34, 0, none⟩))) 44 (.int .i64 e28) (by kernel_rfl) (by kernel_rfl) (run_ld (hC88.get 3 rfl) rfl) hS89 ?_
      obtain ⟨w91, es92, hr93, hF94, hC95, hm96⟩ := delM_run (P := Try.prog) (ek := ekI) (ev := evI) (ty := 0) hC88 2 rfl (rfl : Program.underlying Try.prog 60 = some (.map 3 3)) keyI' hm5 e28 3
      have hS97 := hS89.trans hF94 (by simp)
      refine WD.semN 5 (Builtin.delete_ #[60, 3] 0 #[.map (some mb), .int .i64 e28]) _ (by kernel_rfl) (by kernel_rfl) hr93 hS97 ?_
      have hf98 := rowsO_fr hf90 hF94 (hC88.apartM 0 2 rfl rfl)
      refine WD.done (by kernel_rfl) ?_
      refine QX.then_normal (hK85 _ _ ?_)
      refine WC.region ?_
      refine WL.runs 2 [(46, .int .i64 (IntKind.i64.wrap ((n5 : Int) + 1))), (45, .int .i64 (n5 : Int))] (fun _ => by kernel_rfl) ?_
      refine WL.recast (show (.int .i64 (IntKind.i64.wrap ((n5 : Int) + 1)) : Value) = .int .i64 ((n5 : Int) + 1) from by rw [wrap_in_i64 ((n5 : Int) + 1) (by omega) (by omega)]) ?_
      refine WL.runs 1 [(5, .int .i64 ((n5 : Int) + 1))] (fun _ => by kernel_rfl) ?_
      refine WL.done rfl ?_
      refine QX.block_normal ?_
      refine QX.then_normal (hK25 _ _ ?_)
      refine WC.region ?_
      refine WL.runs 1 [(47, .int .i64 (IntKind.i64.wrap ((i : Int) + 1)))] (fun _ => by kernel_rfl) ?_
      refine WL.recast (show (.int .i64 (IntKind.i64.wrap ((i : Int) + 1)) : Value) = .int .i64 ((i : Int) + 1) from by rw [wrap_in_i64 ((i : Int) + 1) (by omega) (by omega)]) ?_
      refine WL.runs 1 [(15, .int .i64 ((i : Int) + 1))] (fun _ => by kernel_rfl) ?_
      refine WL.done rfl ?_
      refine QX.then_normal ?_
      have hC99 := hC95.pick [0, 1, 2] [0] rfl rfl
      rw [drop_cons he29] at hcl hcn
      simp only [canL, List.foldl_cons, canN] at hcl hcn
      refine fun a_ ha_ => hK14 _ _ _ ?_ ⟨i + 1, es92, cl5, (delL m5 e28), rows5.set (slotN N xv52) (⟨r68.A, r68.c, outK e28 r68.ts⟩ : TRow), n5 + 1, rfl, rfl, hC99, hf98, by omega, hm96, wOk_del hw5 hlk_ hr69 rfl, hcl, by rw [hcn, show (lookL m5 e28).isSome = true from by rw [hlk_]; rfl, if_pos rfl]; omega, by omega⟩ a_ (ha_.weaken (sub_of ⟨rfl, rfl, rfl, rfl, rfl, rfl, rfl, trivial⟩))
      omega
  · -- (i : Int) < (ks.length : Int): false
    have t23 : (ks.length : Int) ≤ (i : Int) := by have q_ := of_decide_eq_false t23b; omega
    refine WC.cond_false rfl ?_
    refine WC.exit ?_
    refine QX.then_exit ?_
    refine QX.then_exit ?_
    refine QX.block_hit ?_
    refine QX.then_normal (hK10 _ _ ?_)
    refine WC.seq (fun K100 hK101 => ?_)
    refine WC.region ?_
    refine WL.runs 2 [(4, .int .i64 (n5 : Int)), (48, .int .i64 (n5 : Int))] (fun _ => by kernel_rfl) ?_
    refine WL.done rfl ?_
    refine QX.then_normal (hK101 _ _ ?_)
    refine WC.ret ?_
    refine (hret _ _ _ rfl ?_).1
    clear hN hret hret' hK101 hK22 hK20 hK12 hK10 hK8 hK6 hK4 hK2
    have hie_ : i = ks.length := by omega
    subst hie_
    rw [List.drop_length] at hcl hcn
    simp only [canL, canN, List.foldl_nil] at hcl hcn
    obtain ⟨F2_, hwh_, hsub_⟩ := wh_close hC18 0 1 2 0 rfl rfl rfl rfl hm5 hro5 hw5 (by decide) (by decide) (by decide)
    rw [← hcl] at hwh_
    exact ⟨F2_, by show Ending.returned (.int .i64 (n5 : Int)) = _; rw [hcn]; simp, hC18.fr, hwh_, hsub_⟩

end Go.Proofs.Ytkafccgbagbncaa
