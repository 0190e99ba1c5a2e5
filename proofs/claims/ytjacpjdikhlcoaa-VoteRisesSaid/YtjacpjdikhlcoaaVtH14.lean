/- Contracts of functions of the program, each proved by a walk through its code; conditions stand in the statements. -/
import Derived.Test.YtjacpjdikhlcoaaVtG14
import Derived.Test.YtjacpjdikhlcoaaTwOpen
namespace Go.Proofs.Ytjacpjdikhlcoaa
set_option linter.unusedSimpArgs false
set_option linter.unusedVariables false
set_option linter.unusedSectionVars false
open Go Go.RowKit Go.Tw
set_option linter.unusedVariables false
set_option maxRecDepth 20000
theorem putE_yes {N : Ct} {size : Int} {key : ByteArray} {tot : Nat} (h1 : 1 ≤ key.size) (h2 : key.size ≤ 64) (h : ((usedL (delL N key) + key.size + tot : Nat) : Int) ≤ size) : putE N size key tot = 0 := by
  unfold putE; rw [if_neg (by omega), if_pos h]
theorem putE_full {N : Ct} {size : Int} {key : ByteArray} {tot : Nat} (h1 : 1 ≤ key.size) (h2 : key.size ≤ 64) (h : size < ((usedL (delL N key) + key.size + tot : Nat) : Int)) : putE N size key tot = 5 := by
  unfold putE; rw [if_neg (by omega), if_neg (by omega)]
theorem putE_form {N : Ct} {size : Int} {key : ByteArray} {tot : Nat} (h : key.size < 1 ∨ 64 < key.size) : putE N size key tot = 9 := by
  unfold putE; rw [if_pos (by omega)]
theorem del_put1 (key : ByteArray) (xs : List Int) : delL (putL ([] : Ct) key xs) key = [] := by simp [putL, delL]
theorem used_put1 (key : ByteArray) (xs : List Int) : usedL (putL ([] : Ct) key xs) = key.size + xs.length := by rw [used_put]; simp [delL, usedL]
theorem used0 : usedL [] = 0 := rfl
theorem del0 (key : ByteArray) : delL ([] : Ct) key = [] := rfl
theorem cat1 (a : Option Addr) (n c : Nat) (xs : List Int) : catL [⟨a, n, c, xs⟩] = xs := by simp [catL]
theorem cat2 (a b : Option Addr) (n c n2 c2 : Nat) (xs ys : List Int) : catL [⟨a, n, c, xs⟩, ⟨b, n2, c2, ys⟩] = xs ++ ys := by simp [catL]
def putS (N : Ct) (size : Int) (key : ByteArray) (xs : List Int) : Ct := if putE N size key xs.length = 0 then putL N key xs else N
def dropN : Ct → List ByteArray → Nat
  | _, [] => 0
  | N, k :: r => (if (lookL N k).isSome then 1 else 0) + dropN (delL N k) r
theorem dropN_le : ∀ (N : Ct) (ks : List ByteArray), dropN N ks ≤ ks.length
  | _, [] => Nat.le_refl _
  | N, k :: r => by
    have := dropN_le (delL N k) r
    simp only [dropN, List.length_cons]
    split <;> omega
theorem rfoot_sub {m m' : Mt} (h : ∀ p ∈ m', p ∈ m) : ∀ x ∈ rfoot m', x ∈ rfoot m := fun x hx => by
  obtain ⟨p, hp, hx⟩ := List.mem_flatMap.1 hx
  exact rfoot_mem (h p hp) hx
theorem drop_fin {w w' : World} {p b1 b2 : Nat} {m1 m2 m3 : Mt} {size : Int} {es1 es2 : Array MapEntry} {c1 c2 : Nat} (hq1 : pairsAt w b1 m1) (hq2 : pairsAt w b2 m2) (hne : p ≠ b1 ∧ p ≠ b2 ∧ b1 ≠ b2) (hft : ∀ x ∈ rfoot m1 ++ rfoot m2, x ∉ [p, b1, b2]) (hf : Fr w w' [p, b1, b2])
    (hp : w'.heap[p]? = some (.cells #[.map (some b1), .map (some b2), .int .i64 size] 129 (0, 0))) (hb1 : w'.heap[b1]? = some (.map es1 c1)) (hm1 : MapOk ekS evB es1 c1 m3) (hb2 : w'.heap[b2]? = some (.map es2 c2)) (hm2 : MapOk ekS evB es2 c2 m2) (h3 : ∀ q ∈ m3, q ∈ m1)
    (hs : 0 ≤ size ∧ size ≤ 67108864) (hu : usedL (ct m3) ≤ usedL (ct m1)) (hu1 : (usedL (ct m1) : Int) ≤ size) (hu2 : (usedL (ct m2) : Int) ≤ size) :
    ∃ F', Fr w w' (p :: b1 :: b2 :: (rfoot m1 ++ rfoot m2)) ∧ stAt w' F' p (ct m3) (ct m2) size ∧ ∀ x ∈ F', x ∈ p :: b1 :: b2 :: (rfoot m1 ++ rfoot m2) ∨ w.heap.size ≤ x := by
  have hr3 := rfoot_sub h3
  have hd1 : ∀ x ∈ rfoot m1, x ∉ [p, b1, b2] := fun x hx => hft x (by simp [hx])
  have k1 : keyOk (ct m3) := fun q hq => by
    obtain ⟨y, hy, rfl⟩ := List.mem_map.1 hq
    exact hq1.keys _ (List.mem_map.2 ⟨y, h3 y hy, rfl⟩)
  have h1 : pairsAt w' b1 m3 := ⟨⟨_, _, hb1, hm1⟩, fun q hq => (hq1.rows q (h3 q hq)).fr hf fun x hx => hd1 x (rfoot_mem (h3 q hq) hx), k1, by omega, fun x hx => Nat.lt_of_lt_of_le (hq1.lt x (hr3 x hx)) hf.size⟩
  have h2 : pairsAt w' b2 m2 := pairs_re hq2 hb2 hm2 hf (fun x hx => hft x (by simp [hx]))
  refine ⟨_, hf.mono (fun x hx => by simp only [List.mem_cons, List.not_mem_nil, or_false] at hx ⊢; rcases hx with h | h | h <;> simp [h]), stAt_mk hp h1 h2 hne (fun x hx => ?_) hs (by omega) hu2, fun x hx => .inl ?_⟩
  · rcases List.mem_append.1 hx with hx | hx
    · exact hd1 x (hr3 x hx)
    · exact hft x (by simp [hx])
  · simp only [List.mem_cons, List.mem_append] at hx ⊢
    rcases hx with h | h | h | h | h
    · exact .inl h
    · exact .inr (.inl h)
    · exact .inr (.inr (.inl h))
    · exact .inr (.inr (.inr (.inl (hr3 x h))))
    · exact .inr (.inr (.inr (.inr h)))
theorem drop_step {ks : List ByteArray} {i : Nat} {k : ByteArray} (h : ks[i]? = some k) : ks.drop i = k :: ks.drop (i + 1) := by
  obtain ⟨hk, rfl⟩ := List.getElem?_eq_some_iff.1 h
  exact List.drop_eq_getElem_cons hk
theorem stAt_nodup {w : World} {F : List Nat} {p : Nat} {N Y : Ct} {size : Int} (h : stAt w F p N Y size) : (N.map (·.1)).Nodup ∧ (Y.map (·.1)).Nodup := by
  obtain ⟨b1, b2, m1, m2, _, h1, h2, rfl, rfl, _⟩ := h
  have hk : ∀ m : Mt, (ct m).map (·.1) = m.map (·.1) := fun m => by simp [ct, List.map_map, Function.comp_def]
  obtain ⟨_, _, _, k1⟩ := h1.map
  obtain ⟨_, _, _, k2⟩ := h2.map
  rw [hk, hk]; exact ⟨k1.keys, k2.keys⟩


theorem Put_any (F : List Nat) (p : Nat) (N Y : Ct) (size : Int) (key : ByteArray) (A : Option Addr) (c : Nat) (ps : List BRow) (xs : List Int) (w : World) (ht : stAt w F p N Y size) (hps : Rd w 1 cellB A ps) (hr : ∀ r ∈ ps, rowAt w r) (hpl : ps.length < 2 ^ 60) (hc : catL ps = xs) : Calls Try.prog 48 #[.pointer (some ⟨p, 0, none⟩), .string key, .slice A ps.length c] w fun e w' => ∃ F2, e = .returned (errV 35 (putE N size key xs.length)) ∧ Fr w w' F ∧ stAt w' F2 p (putS N size key xs) Y size ∧ ∀ x ∈ F2, x ∈ F ∨ w.heap.size ≤ x := by
  subst hc
  exact Put_ct F p N Y size key A c ps w ht hps hr hpl
theorem Num_nil  (w : World) : Calls Try.prog 15 #[.nilIface] w fun e w' => e = .returned (.int .i64 0) ∧ Fr w w' [] := by
  refine enterD (n := 19) Try.func15 rfl rfl (Nat.le_of_ble_eq_true rfl) ?_
  intro Q0 hN hret hret'
  have hC := Cx.start w
  refine WC.seq (fun K1 hK2 => ?_)
  refine WC.region ?_
  refine WL.runs 1 [(2, .int .i64 0)] (fun _ => by kernel_rfl) ?_
  refine WL.done rfl ?_
  refine QX.then_normal (hK2 _ _ ?_)
  refine WC.seq (fun K3 hK4 => ?_)
  refine WC.seq (fun K5 hK6 => ?_)
  refine WC.region ?_
  refine WL.runs 2 [(6, .bool true), (5, .nilIface)] (fun _ => by kernel_rfl) ?_
  refine WL.done rfl ?_
  refine QX.then_normal (hK6 _ _ ?_)
  refine WC.cond_true rfl ?_
  refine WC.seq (fun K7 hK8 => ?_)
  refine WC.region ?_
  refine WL.runs 1 [(2, .int .i64 0)] (fun _ => by kernel_rfl) ?_
  refine WL.done rfl ?_
  refine QX.then_normal (hK8 _ _ ?_)
  refine WC.ret ?_
  refine QX.then_ret ?_
  refine (hret _ _ _ rfl ?_).1
  clear hN hret hret' hK8 hK6 hK4 hK2
  exact ⟨rfl, hC.fr⟩

theorem Num_err (c : Int) (w : World) (hc : c ≠ 0) : Calls Try.prog 15 #[.iface 35 (.int .i64 c)] w fun e w' => e = .returned (.int .i64 c) ∧ Fr w w' [] := by
  refine enterD (n := 19) Try.func15 rfl rfl (Nat.le_of_ble_eq_true rfl) ?_
  intro Q0 hN hret hret'
  have hC := Cx.start w
  refine WC.seq (fun K1 hK2 => ?_)
  refine WC.region ?_
  refine WL.runs 1 [(2, .int .i64 0)] (fun _ => by kernel_rfl) ?_
  refine WL.done rfl ?_
  refine QX.then_normal (hK2 _ _ ?_)
  refine WC.seq (fun K3 hK4 => ?_)
  refine WC.seq (fun K5 hK6 => ?_)
  refine WC.region ?_
  refine WL.runs 2 [(6, .bool false), (5, .iface 35 (.int .i64 c))] (fun _ => by kernel_rfl) ?_
  refine WL.done rfl ?_
  refine QX.then_normal (hK6 _ _ ?_)
  refine WC.cond_false rfl ?_
  refine WC.skip ?_
  refine QX.then_normal (hK4 _ _ ?_)
  refine WC.seq (fun K7 hK8 => ?_)
  refine WC.region ?_
  refine WL.runs 7 [(4, .bool true), (3, .int .i64 c), (11, .bool true), (10, .int .i64 c), (7, .tuple #[.int .i64 c, .bool true]), (9, .tuple #[.int .i64 c, .bool true]), (8, .iface 35 (.int .i64 c))] (fun _ => by kernel_rfl) ?_
  refine WL.done rfl ?_
  refine QX.then_normal (hK8 _ _ ?_)
  refine WC.seq (fun K9 hK10 => ?_)
  refine WC.seq (fun K11 hK12 => ?_)
  refine WC.region ?_
  refine WL.runs 6 [(17, .bool (c == 0)), (16, .bool (c == 0)), (15, .int .i64 c), (14, .bool false), (13, .bool false), (12, .bool true)] (fun _ => by kernel_rfl) ?_
  refine WL.done rfl ?_
  refine QX.then_normal (hK12 _ _ ?_)
  refine WC.know 17 (.bool (c == 0)) (.bool false) rfl (congrArg Value.bool (by simpa using hc)) ?_
  refine WC.cond_false rfl ?_
  refine WC.skip ?_
  refine QX.then_normal (hK10 _ _ ?_)
  refine WC.seq (fun K13 hK14 => ?_)
  refine WC.region ?_
  refine WL.runs 2 [(2, .int .i64 c), (18, .int .i64 c)] (fun _ => by kernel_rfl) ?_
  refine WL.done rfl ?_
  refine QX.then_normal (hK14 _ _ ?_)
  refine WC.ret ?_
  refine (hret _ _ _ rfl ?_).1
  clear hN hret hret' hK14 hK12 hK10 hK8 hK6 hK4 hK2
  exact ⟨rfl, hC.fr⟩

theorem Num_ct (c : Int) (w : World) : Calls Try.prog 15 #[errV 35 c] w fun e w' => e = .returned (.int .i64 c) ∧ Fr w w' [] := by
  unfold errV
  by_cases h : c = 0
  · subst h; exact Num_nil w
  · rw [if_neg h]; exact Num_err c w h
set_option maxHeartbeats 1000000 in
theorem Drop_ct (F : List Nat) (p : Nat) (N Y : Ct) (size : Int) (A : Option Addr) (c : Nat) (ks : List ByteArray) (w : World) (ht : stAt w F p N Y size) (hks : Rd w 1 Go.Tw.encS A ks) (hkl : ks.length ≤ 9223372036854775807) (hAF : ∀ b off, A = some ⟨b, off, none⟩ → b ∉ F) : Calls Try.prog 77 #[.pointer (some ⟨p, 0, none⟩), .slice A ks.length c] w fun e w' => ∃ F2, e = .returned (.int .i64 (dropN N ks : Int)) ∧ Fr w w' F ∧ stAt w' F2 p (ks.foldl delL N) Y size ∧ ∀ x ∈ F2, x ∈ F ∨ w.heap.size ≤ x := by
  refine enterD (n := 37) Try.func77 rfl rfl (Nat.le_of_ble_eq_true rfl) ?_
  intro Q0 hN hret hret'
  have ht0 := ht
  obtain ⟨b1, b2, m1, m2, hp_, hq1_, hq2_, rfl, rfl, rfl, hne_, hft_, hs0_, hs1_, hu1_, hu2_⟩ := ht
  obtain ⟨hne1_, hne2_, hne3_⟩ := hne_
  obtain ⟨es1, cl1, hb1_, hm1_⟩ := hq1_.map
  obtain ⟨es2, cl2, hb2_, hm2_⟩ := hq2_.map
  have hC := Cx.startMs w [(p, .cells #[.map (some b1), .map (some b2), .int .i64 size] 129), (b1, .map es1 cl1), (b2, .map es2 cl2)] (by simp [hne1_, hne2_, hne3_]) (by simp [hp_, hb1_, hb2_])
  refine WC.seq (fun K1 hK2 => ?_)
  refine WC.region ?_
  refine WL.runs 1 [(4, .int .i64 0)] (fun _ => by kernel_rfl) ?_
  refine WL.done rfl ?_
  refine QX.then_normal (hK2 _ _ ?_)
  refine WC.seq (fun K3 hK4 => ?_)
  refine WC.seq (fun K5 hK6 => ?_)
  refine WC.region ?_
  refine WL.runs 2 [(11, .bool false), (10, .pointer (some ⟨p, 0, none⟩))] (fun _ => by kernel_rfl) ?_
  refine WL.done rfl ?_
  refine QX.then_normal (hK6 _ _ ?_)
  refine WC.cond_false rfl ?_
  refine WC.skip ?_
  refine QX.then_normal (hK4 _ _ ?_)
  refine WC.seq (fun K7 hK8 => ?_)
  refine WC.region ?_
  refine WL.runs 1 [(5, .int .i64 0)] (fun _ => by kernel_rfl) ?_
  refine WL.done rfl ?_
  refine QX.then_normal (hK8 _ _ ?_)
  refine WC.seq (fun K9 hK10 => ?_)
  refine WC.seq (fun K11 hK12 => ?_)
  refine WC.region ?_
  refine WL.runs 3 [(14, .int .i64 0), (13, .int .i64 (ks.length : Int)), (12, .slice A ks.length c)] (fun _ => by kernel_rfl) ?_
  refine WL.done rfl ?_
  refine QX.then_normal (hK12 _ _ ?_)
  refine WC.block ?_
  refine WC.loop (fun m_ E_ w_ => ∃ (i : Nat) (n : Int) (es3 : Array MapEntry) (m3 : Mt), m_ = ks.length - i ∧ E_ = [(0, .pointer (some ⟨p, 0, none⟩)), (1, .slice A ks.length c), (4, .int .i64 0), (5, .int .i64 n), (12, .slice A ks.length c), (13, .int .i64 (ks.length : Int)), (14, .int .i64 (i : Int))] ∧ Cx w [p, b1, b2] w_ [(p, .cells #[.map (some b1), .map (some b2), .int .i64 size] 129), (b1, .map es3 cl1), (b2, .map es2 cl2)] [] ∧ (i ≤ ks.length ∧ MapOk ekS evB es3 cl1 m3 ∧ (∀ q ∈ m3, q ∈ m1) ∧ usedL (ct m3) ≤ usedL (ct m1) ∧ n + (dropN (ct m3) (ks.drop i) : Int) = (dropN (ct m1) ks : Int) ∧ (ks.drop i).foldl delL (ct m3) = ks.foldl delL (ct m1) ∧ 0 ≤ n ∧ n ≤ (i : Int))) ⟨_, _, ⟨0, 0, es1, m1, rfl, rfl, hC, Nat.zero_le _, hm1_, fun _ h_ => h_, Nat.le_refl _, by simp, rfl, Int.le_refl _, Int.le_refl _⟩, sub_of ⟨rfl, rfl, rfl, rfl, rfl, rfl, rfl, trivial⟩⟩ (fun m16 E_ w17 K13 hK14 hI15 => ?_)
  obtain ⟨i, n, es3, m3, rfl, rfl, hC18, hi, hm3, hsub, hus, hdn, hfo, hn0, hni⟩ := hI15
  skip
  refine WC.seq (fun K19 hK20 => ?_)
  refine WC.region ?_
  refine WL.runs 1 [(15, .bool (decide ((i : Int) < (ks.length : Int))))] (fun _ => by kernel_rfl) ?_
  refine WL.done rfl ?_
  refine QX.then_normal (hK20 _ _ ?_)
  refine WC.seq (fun K21 hK22 => ?_)
  refine WC.test_at 15 (decide ((i : Int) < (ks.length : Int))) rfl (fun t23b => ?_) (fun t23b => ?_)
  · -- (i : Int) < (ks.length : Int): true
    have t23 : (i : Int) < (ks.length : Int) := by have q_ := of_decide_eq_true t23b; omega
    refine WC.cond_true rfl ?_
    refine WC.skip ?_
    refine QX.then_normal (hK22 _ _ ?_)
    refine WC.seq (fun K24 hK25 => ?_)
    refine WC.block ?_
    refine WC.seq (fun K26 hK27 => ?_)
    refine WC.region ?_
    obtain ⟨e28, he29⟩ := get_some (xs := ks) (i := i) (by omega)
    obtain ⟨b30, o32, hA31, hc33⟩ := hks.at_ _ _ he29
    refine WL.index A ks.length c 16 .i64 (i : Int) b30 o32 i 1 (by kernel_rfl) hA31 (by omega) (by omega) (o32 + i) (by first | (simp; done) | omega) ?_
    refine WL.load 9 (.pointer (some ⟨b30, o32 + i, none⟩)) (.string e28) 17 (by kernel_rfl) (run_load1 rfl (by simpa [Nat.add_assoc] using hC18.fr.cell (hc33 0 _ rfl) (by have q_ := hAF _ _ hA31; simp only [List.mem_cons, List.mem_append, List.map_cons, List.map_nil, List.not_mem_nil, not_or, or_false] at q_ ⊢; exact ⟨q_.1, q_.2.1, q_.2.2.1⟩))) ?_
    refine WL.runs 1 [(7, .string e28)] (fun _ => by kernel_rfl) ?_
    refine WL.done rfl ?_
    refine QX.then_normal (hK27 _ _ ?_)
    refine WC.seq (fun K34 hK35 => ?_)
    refine WC.region ?_
    refine WL.runs 3 [(21, .pointer (some ⟨p, 0, none⟩)), (20, .pointer (some ⟨p, 0, none⟩)), (19, .pointer (some ⟨p, 0, none⟩))] (fun _ => by kernel_rfl) ?_
    refine WL.load 127 (.pointer (some ⟨p, 0, none⟩)) (.map (some b1)) 22 (by kernel_rfl) (run_ld (hC18.get 0 rfl) rfl) ?_
    refine WL.runs 1 [(23, .string e28)] (fun _ => by kernel_rfl) ?_
    obtain ⟨xv36, hxv37⟩ : ∃ x_, (lookL m3 e28).getD zeroB = x_ := ⟨_, rfl⟩
    obtain ⟨bv38, hbv39⟩ : ∃ b_, (lookL m3 e28).isSome = b_ := ⟨_, rfl⟩
    have hr40 := lookM_ok (P := Try.prog) (w := w17) (ek := ekS) (ev := evB) (d := zeroB) (rfl : Program.underlying Try.prog 127 = some (.map 9 22)) keyS (fun _ => by kernel_rfl) (hC18.get 1 rfl) hm3 e28 hxv37 hbv39
    refine WL.sem (Instr.lookup 127 (.map (some b1)) (.string e28) true) 24 (.tuple #[.slice xv36.a xv36.n xv36.c, .bool bv38]) (by kernel_rfl) hr40 ?_
    refine WL.runs 5 [(9, .bool bv38), (8, .slice xv36.a xv36.n xv36.c), (26, .bool bv38), (25, .slice xv36.a xv36.n xv36.c), (18, .tuple #[.slice xv36.a xv36.n xv36.c, .bool bv38])] (fun _ => by kernel_rfl) ?_
    refine WL.done rfl ?_
    refine QX.then_normal (hK35 _ _ ?_)
    refine WC.seq (fun K41 hK42 => ?_)
    refine WC.region ?_
    refine WL.runs 1 [(27, .bool bv38)] (fun _ => by kernel_rfl) ?_
    refine WL.done rfl ?_
    refine QX.then_normal (hK42 _ _ ?_)
    refine WC.test_at 27 (bv38) rfl (fun t43b => ?_) (fun t43b => ?_)
    · -- bv38 = true: true
      refine WC.cond_true rfl ?_
      refine WC.seq (fun K44 hK45 => ?_)
      refine WC.region ?_
      refine WL.runs 3 [(30, .pointer (some ⟨p, 0, none⟩)), (29, .pointer (some ⟨p, 0, none⟩)), (28, .pointer (some ⟨p, 0, none⟩))] (fun _ => by kernel_rfl) ?_
      refine WL.load 127 (.pointer (some ⟨p, 0, none⟩)) (.map (some b1)) 31 (by kernel_rfl) (run_ld (hC18.get 0 rfl) rfl) ?_
      refine WL.runs 1 [(32, .string e28)] (fun _ => by kernel_rfl) ?_
      obtain ⟨w46, es47, hr48, hF49, hC50, hm51⟩ := delM_run (P := Try.prog) (ek := ekS) (ev := evB) (ty := 0) hC18 1 rfl (rfl : Program.underlying Try.prog 127 = some (.map 9 22)) keyS hm3 e28 9
      refine WL.semN (Builtin.delete_ #[127, 9] 0 #[.map (some b1), .string e28]) _ (by kernel_rfl) hr48 ?_
      refine WL.done rfl ?_
      refine QX.then_normal (hK45 _ _ ?_)
      refine WC.region ?_
      refine WL.runs 2 [(34, .int .i64 (IntKind.i64.wrap (n + 1))), (33, .int .i64 n)] (fun _ => by kernel_rfl) ?_
      refine WL.recast (show (.int .i64 (IntKind.i64.wrap (n + 1)) : Value) = .int .i64 (n + 1) from by rw [wrap_in_i64 (n + 1) (by omega) (by omega)]) ?_
      refine WL.runs 1 [(5, .int .i64 (n + 1))] (fun _ => by kernel_rfl) ?_
      refine WL.done rfl ?_
      refine QX.block_normal ?_
      refine QX.then_normal (hK25 _ _ ?_)
      refine WC.region ?_
      refine WL.runs 1 [(35, .int .i64 (IntKind.i64.wrap ((i : Int) + 1)))] (fun _ => by kernel_rfl) ?_
      refine WL.recast (show (.int .i64 (IntKind.i64.wrap ((i : Int) + 1)) : Value) = .int .i64 ((i : Int) + 1) from by rw [wrap_in_i64 ((i : Int) + 1) (by omega) (by omega)]) ?_
      refine WL.runs 1 [(14, .int .i64 ((i : Int) + 1))] (fun _ => by kernel_rfl) ?_
      refine WL.done rfl ?_
      refine QX.then_normal ?_
      have hC52 := hC50.pick [0, 1, 2] [] rfl rfl
      have hst_ := drop_step he29
      rw [hst_] at hdn hfo
      simp only [dropN, List.foldl_cons] at hdn hfo
      rw [show (lookL (ct m3) e28).isSome = true from by rw [ct_look, (look_some hxv37 (by rw [hbv39]; simpa using t43b))]; rfl, if_pos rfl] at hdn
      rw [← ct_del] at hdn hfo
      refine fun a_ ha_ => hK14 _ _ _ ?_ ⟨i + 1, n + 1, es47, (delL m3 e28), rfl, rfl, hC52, by omega, hm51, fun q_ h_ => hsub q_ (del_mem h_), by rw [ct_del]; exact Nat.le_trans (used_del_le _ _) hus, by omega, hfo, by omega, by omega⟩ a_ (ha_.weaken (sub_of ⟨rfl, rfl, rfl, rfl, rfl, rfl, rfl, trivial⟩))
      omega
    · -- bv38 = true: false
      refine WC.cond_false rfl ?_
      refine WC.skip ?_
      refine QX.block_normal ?_
      refine QX.then_normal (hK25 _ _ ?_)
      refine WC.region ?_
      refine WL.runs 1 [(35, .int .i64 (IntKind.i64.wrap ((i : Int) + 1)))] (fun _ => by kernel_rfl) ?_
      refine WL.recast (show (.int .i64 (IntKind.i64.wrap ((i : Int) + 1)) : Value) = .int .i64 ((i : Int) + 1) from by rw [wrap_in_i64 ((i : Int) + 1) (by omega) (by omega)]) ?_
      refine WL.runs 1 [(14, .int .i64 ((i : Int) + 1))] (fun _ => by kernel_rfl) ?_
      refine WL.done rfl ?_
      refine QX.then_normal ?_
      have hC53 := hC18.pick [0, 1, 2] [] rfl rfl
      have hst_ := drop_step he29
      rw [hst_] at hdn hfo
      simp only [dropN, List.foldl_cons] at hdn hfo
      have hnl_ : lookL (ct m3) e28 = none := by rw [ct_look, (look_none hxv37 (by rw [hbv39]; simpa using t43b)).1]; rfl
      rw [del_none hnl_] at hdn hfo
      simp only [hnl_, Option.isSome_none, Bool.false_eq_true, if_false, Nat.zero_add] at hdn
      refine fun a_ ha_ => hK14 _ _ _ ?_ ⟨i + 1, n, es3, m3, rfl, rfl, hC53, by omega, hm3, hsub, hus, by omega, hfo, by omega, by omega⟩ a_ (ha_.weaken (sub_of ⟨rfl, rfl, rfl, rfl, rfl, rfl, rfl, trivial⟩))
      omega
  · -- (i : Int) < (ks.length : Int): false
    have t23 : (ks.length : Int) ≤ (i : Int) := by have q_ := of_decide_eq_false t23b; omega
    refine WC.cond_false rfl ?_
    refine WC.exit ?_
    refine QX.then_exit ?_
    refine QX.then_exit ?_
    refine QX.block_hit ?_
    refine QX.then_normal (hK10 _ _ ?_)
    refine WC.seq (fun K54 hK55 => ?_)
    refine WC.region ?_
    refine WL.runs 2 [(4, .int .i64 n), (36, .int .i64 n)] (fun _ => by kernel_rfl) ?_
    refine WL.done rfl ?_
    refine QX.then_normal (hK55 _ _ ?_)
    refine WC.ret ?_
    refine (hret _ _ _ rfl ?_).1
    clear hN hret hret' hK55 hK22 hK20 hK12 hK10 hK8 hK6 hK4 hK2
    have hi_ : i = ks.length := by omega
    subst hi_
    rw [List.drop_length] at hdn hfo
    simp only [dropN, List.foldl_nil] at hdn hfo
    obtain ⟨F2_, h1_, h2_, h3_⟩ := drop_fin hq1_ hq2_ ⟨hne1_, hne2_, hne3_⟩ hft_ hC18.fr (hC18.get 0 rfl) (hC18.get 1 rfl) hm3 (hC18.get 2 rfl) hm2_ hsub ⟨hs0_, hs1_⟩ hus hu1_ hu2_
    rw [hfo] at h2_
    exact ⟨F2_, by show Ending.returned (.int .i64 n) = _; rw [show n = (dropN (ct m1) ks : Int) from by omega], h1_, h2_, h3_⟩

end Go.Proofs.Ytjacpjdikhlcoaa
