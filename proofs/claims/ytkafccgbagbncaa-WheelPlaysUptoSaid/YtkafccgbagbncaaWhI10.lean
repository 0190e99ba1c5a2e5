/- Contracts of functions of the program, each proved by a walk through its code; conditions stand in the statements. -/
import Derived.Test.YtkafccgbagbncaaWhF10
namespace Go.Proofs.Ytkafccgbagbncaa
set_option linter.unusedSimpArgs false
set_option linter.unusedVariables false
set_option linter.unusedSectionVars false
open Go Go.RowKit Go.Tw
set_option linter.unusedVariables false
set_option maxRecDepth 20000
theorem canL_len2 (m : List (Int × Int)) (ks : List Int) : (canL m ks).length ≤ m.length := by
  induction ks generalizing m with
  | nil => exact Nat.le_refl _
  | cons k r ih => exact Nat.le_trans (ih (delL m k)) (canL_len k)
theorem dueH_ok {m : List (Int × Int)} (hk : (m.map (·.1)).Nodup) {hand now : Int} (h0 : 0 ≤ hand ∧ hand ≤ 1099511627776) (hm : ∀ t ∈ m, hand ≤ t.2) : (0 ≤ dueH hand now ∧ dueH hand now ≤ 1099511627776) ∧ ∀ t ∈ canL m (dueK m now), dueH hand now ≤ t.2 := by
  unfold dueH
  split
  · exact ⟨h0, fun t ht => hm t ((mem_rest hk).1 ht).1⟩
  · refine ⟨by omega, fun t ht => ?_⟩
    have := ((mem_rest hk).1 ht).2
    omega

/-! ### a script -/
structure WOp where
  kind : Int
  at_ : Int
  A : Option Addr
  n : Nat
  c : Nat
  ks : List Int
def cellW (o : WOp) : List Value := [.int .i64 o.kind, .int .i64 o.at_, .slice o.A o.n o.c]
theorem cellW_len (o : WOp) : (cellW o).length = 3 := rfl
theorem cellW_one (o : WOp) : (cellW o).all Value.oneCell' = true := rfl
structure wopAt (w : World) (o : WOp) : Prop where
  row : Rd w 1 (Go.Tw.encI .i64) o.A o.ks
  len : o.ks.length = o.n
  hi : o.at_ ≤ 9223372036854775807
  cap : o.n ≤ o.c
theorem wopAt.fr {w w' : World} {o : WOp} (h : wopAt w o) (hf : Fr w w' []) : wopAt w' o := { h with row := Rd.fr h.row hf }
def totW (ops : List WOp) : Nat := (ops.map fun o => 1 + o.ks.length).sum
theorem totW_mem {ops : List WOp} {o : WOp} (h : o ∈ ops) : 1 + o.ks.length ≤ totW ops := by
  induction ops with
  | nil => cases h
  | cons a r ih =>
    simp only [totW, List.map_cons, List.sum_cons]
    rcases List.mem_cons.1 h with rfl | h
    · omega
    · have := ih h; unfold totW at this; omega
theorem totW_len (ops : List WOp) : ops.length ≤ totW ops := by
  induction ops with
  | nil => exact Nat.zero_le _
  | cons a r ih => simp only [totW, List.map_cons, List.sum_cons, List.length_cons] at ih ⊢; omega
theorem totW_take {ops : List WOp} {i : Nat} {o : WOp} (h : ops[i]? = some o) : totW (ops.take (i + 1)) = totW (ops.take i) + (1 + o.ks.length) := by
  obtain ⟨hi, rfl⟩ := List.getElem?_eq_some_iff.1 h
  unfold totW
  rw [List.take_succ_eq_append_getElem hi, List.map_append, List.sum_append]; simp
theorem totW_le (ops : List WOp) (i : Nat) : totW (ops.take i) ≤ totW ops := by
  have h : totW ops = totW (ops.take i) + totW (ops.drop i) := by
    unfold totW; rw [← List.sum_append, ← List.map_append, List.take_append_drop]
  omega
theorem setL_keys {m : List (Int × Int)} (h : (m.map (·.1)).Nodup) (a : Int) (ks : List Int) : ((setL m a ks).map (·.1)).Nodup := by
  induction ks generalizing m with
  | nil => exact h
  | cons k r ih =>
    refine ih (m := delL m k ++ [(k, a)]) ?_
    rw [List.map_append, List.nodup_append]
    refine ⟨delL_keys m k h, by simp, fun x hx y hy => ?_⟩
    simp only [List.map_cons, List.map_nil, List.mem_singleton] at hy
    obtain ⟨t, ht, rfl⟩ := List.mem_map.1 hx
    rw [hy]; exact ((mem_del h k t).1 ht).2
theorem mem_setL {m : List (Int × Int)} {a : Int} {ks : List Int} {t : Int × Int} (h : t ∈ setL m a ks) : t ∈ m ∨ (t.2 = a ∧ ks ≠ []) := by
  induction ks generalizing m with
  | nil => exact .inl h
  | cons k r ih =>
    rcases ih (m := delL m k ++ [(k, a)]) h with h1 | ⟨h1, _⟩
    · rcases List.mem_append.1 h1 with h2 | h2
      · left
        have : ∀ (m : List (Int × Int)), t ∈ delL m k → t ∈ m := by
          intro m
          induction m with
          | nil => intro h; cases h
          | cons x r ih =>
            intro h
            unfold delL at h
            split at h
            · exact List.mem_cons_of_mem _ h
            · rcases List.mem_cons.1 h with rfl | h
              · exact List.mem_cons_self
              · exact List.mem_cons_of_mem _ (ih h)
        exact this m h2
      · rw [List.mem_singleton] at h2; subst h2; exact .inr ⟨rfl, by simp⟩
    · exact .inr ⟨h1, by simp⟩
def handOk (m : List (Int × Int)) (h : Int) : Prop := (0 ≤ h ∧ h ≤ 1099511627776) ∧ ∀ t ∈ m, h ≤ t.2
theorem handOk.set {m : List (Int × Int)} {h a : Int} {ks : List Int} (ho : handOk m h) (h0 : 0 ≤ a) : handOk (setL m a ks) (setH h a ks) := by
  obtain ⟨⟨p1, p2⟩, p3⟩ := ho
  unfold setH
  refine ⟨by split <;> omega, fun t ht => ?_⟩
  rcases mem_setL ht with h1 | ⟨h1, h2⟩
  · have := p3 t h1; split <;> omega
  · rw [if_neg h2, h1]; omega
theorem handOk.can {m : List (Int × Int)} {h : Int} {ks : List Int} (hk : (m.map (·.1)).Nodup) (ho : handOk m h) : handOk (canL m ks) h := ⟨ho.1, fun t ht => ho.2 t ((mem_canL hk ks t).1 ht).1⟩
theorem handOk.due {m : List (Int × Int)} {h now : Int} (hk : (m.map (·.1)).Nodup) (ho : handOk m h) : handOk (canL m (dueK m now)) (dueH h now) := dueH_ok hk ho.1 ho.2
theorem long_ct (C : Option Addr) (c : Nat) (ops : List WOp) (w : World) (hops : Rd w 3 cellW C ops) (hok : ∀ o ∈ ops, wopAt w o) (hbk : totW ops ≤ 1048576) : Calls Try.prog 13 #[.slice C ops.length c] w fun e w' => ∃ b, e = .returned (.bool b) ∧ Fr w w' [] := by
  refine enterD (n := 21) Try.func13 rfl rfl (Nat.le_of_ble_eq_true rfl) ?_
  intro Q0 hN hret hret'
  have htl_ := totW_len ops
  have hC := Cx.start w
  refine WC.seq (fun K1 hK2 => ?_)
  refine WC.region ?_
  refine WL.runs 1 [(2, .bool false)] (fun _ => by kernel_rfl) ?_
  refine WL.done rfl ?_
  refine QX.then_normal (hK2 _ _ ?_)
  refine WC.seq (fun K3 hK4 => ?_)
  refine WC.region ?_
  refine WL.runs 1 [(3, .int .i64 0)] (fun _ => by kernel_rfl) ?_
  refine WL.done rfl ?_
  refine QX.then_normal (hK4 _ _ ?_)
  refine WC.seq (fun K5 hK6 => ?_)
  refine WC.seq (fun K7 hK8 => ?_)
  refine WC.region ?_
  refine WL.runs 3 [(8, .int .i64 0), (7, .int .i64 (ops.length : Int)), (6, .slice C ops.length c)] (fun _ => by kernel_rfl) ?_
  refine WL.done rfl ?_
  refine QX.then_normal (hK8 _ _ ?_)
  refine WC.block ?_
  refine WC.loop (fun m_ E_ w_ => ∃ (i : Nat) (n : Int), m_ = ops.length - i ∧ E_ = [(0, .slice C ops.length c), (3, .int .i64 n), (6, .slice C ops.length c), (7, .int .i64 (ops.length : Int)), (8, .int .i64 (i : Int))] ∧ Cx w [] w_ [] [] ∧ (i ≤ ops.length ∧ 0 ≤ n ∧ n ≤ 800)) ⟨_, _, ⟨0, 0, rfl, rfl, hC, Nat.zero_le _, by omega, by omega⟩, sub_of ⟨rfl, rfl, rfl, rfl, rfl, trivial⟩⟩ (fun m12 E_ w13 K9 hK10 hI11 => ?_)
  obtain ⟨i, n, rfl, rfl, hC14, hi, hn0, hn1⟩ := hI11
  refine WC.seq (fun K15 hK16 => ?_)
  refine WC.region ?_
  refine WL.runs 1 [(9, .bool (decide ((i : Int) < (ops.length : Int))))] (fun _ => by kernel_rfl) ?_
  refine WL.done rfl ?_
  refine QX.then_normal (hK16 _ _ ?_)
  refine WC.seq (fun K17 hK18 => ?_)
  refine WC.test_at 9 (decide ((i : Int) < (ops.length : Int))) rfl (fun t19b => ?_) (fun t19b => ?_)
  · -- (i : Int) < (ops.length : Int): true
    have t19 : (i : Int) < (ops.length : Int) := by have q_ := of_decide_eq_true t19b; omega
    refine WC.cond_true rfl ?_
    refine WC.skip ?_
    refine QX.then_normal (hK18 _ _ ?_)
    refine WC.seq (fun K20 hK21 => ?_)
    refine WC.block ?_
    refine WC.seq (fun K22 hK23 => ?_)
    refine WC.region ?_
    obtain ⟨e24, he25⟩ := get_some (xs := ops) (i := i) (by omega)
    obtain ⟨b26, o28, hA27, hc29⟩ := hops.at_ _ _ he25
    have hop_e24 := hok _ (List.mem_of_getElem? he25)
    have htm_e24 := totW_mem (List.mem_of_getElem? he25)
    have hle_e24 := hop_e24.len
    refine WL.index C ops.length c 10 .i64 (i : Int) b26 o28 i 3 (by kernel_rfl) hA27 (by omega) (by omega) (o28 + i * 3) (by first | (simp; done) | omega) ?_
    refine WL.load 36 (.pointer (some ⟨b26, o28 + i * 3, none⟩)) (.agg #[.int .i64 e24.kind, .int .i64 e24.at_, .slice e24.A e24.n e24.c]) 11 (by kernel_rfl) (run_rdN (l := [.int .i64 e24.kind, .int .i64 e24.at_, .slice e24.A e24.n e24.c]) rfl rfl (fun j u hu => by have hq_ := hC14.fr.cell (hc29 j u hu) (by simp); simpa [Nat.add_assoc] using hq_)) ?_
    refine WL.newM hC14 (fun b => .pointer (some ⟨b, 0, none⟩)) (.cells #[.int .i64 0, .int .i64 0, .slice none 0 0] 36) 5 (fun _ => by kernel_rfl) (fun g30 w31 hb34 hF32 hC33 => ?_)
    refine WL.storeM (c' := #[.int .i64 e24.kind, .int .i64 e24.at_, .slice e24.A e24.n e24.c]) hC33 0 36 g30 0 (.agg #[.int .i64 e24.kind, .int .i64 e24.at_, .slice e24.A e24.n e24.c]) (by kernel_rfl) rfl (by kernel_rfl) (fun w35 hF37 hC38 => ?_)
    refine WL.done rfl ?_
    refine QX.then_normal (hK23 _ _ ?_)
    refine WC.seq (fun K39 hK40 => ?_)
    refine WC.region ?_
    refine WL.runs 2 [(13, .pointer (some ⟨g30, 2, none⟩)), (12, .int .i64 n)] (fun _ => by kernel_rfl) ?_
    refine WL.load 22 (.pointer (some ⟨g30, 2, none⟩)) (.slice e24.A e24.n e24.c) 14 (by kernel_rfl) (run_ld (hC38.get 0 rfl) rfl) ?_
    refine WL.runs 2 [(16, .int .i64 (IntKind.i64.wrap (1 + (e24.n : Int)))), (15, .int .i64 (e24.n : Int))] (fun _ => by kernel_rfl) ?_
    refine WL.recast (show (.int .i64 (IntKind.i64.wrap (1 + (e24.n : Int))) : Value) = .int .i64 (1 + (e24.n : Int)) from by rw [wrap_in_i64 (1 + (e24.n : Int)) (by omega) (by omega)]) ?_
    refine WL.runs 1 [(17, .int .i64 (IntKind.i64.wrap (n + (1 + (e24.n : Int)))))] (fun _ => by kernel_rfl) ?_
    refine WL.recast (show (.int .i64 (IntKind.i64.wrap (n + (1 + (e24.n : Int)))) : Value) = .int .i64 (n + (1 + (e24.n : Int))) from by rw [wrap_in_i64 (n + (1 + (e24.n : Int))) (by omega) (by omega)]) ?_
    refine WL.runs 1 [(3, .int .i64 (n + (1 + (e24.n : Int))))] (fun _ => by kernel_rfl) ?_
    refine WL.done rfl ?_
    refine QX.then_normal (hK40 _ _ ?_)
    refine WC.seq (fun K41 hK42 => ?_)
    refine WC.region ?_
    refine WL.runs 2 [(19, .bool (decide ((n + (1 + (e24.n : Int))) > 800))), (18, .int .i64 (n + (1 + (e24.n : Int))))] (fun _ => by kernel_rfl) ?_
    refine WL.done rfl ?_
    refine QX.then_normal (hK42 _ _ ?_)
    refine WC.test_at 19 (decide ((n + (1 + (e24.n : Int))) > 800)) rfl (fun t43b => ?_) (fun t43b => ?_)
    · -- (n + (1 + (e24.n : Int))) > 800: true
      have t43 : (800 : Int) < (n + (1 + (e24.n : Int))) := by have q_ := of_decide_eq_true t43b; omega
      refine WC.cond_true rfl ?_
      refine WC.seq (fun K44 hK45 => ?_)
      refine WC.region ?_
      refine WL.runs 1 [(2, .bool true)] (fun _ => by kernel_rfl) ?_
      refine WL.done rfl ?_
      refine QX.then_normal (hK45 _ _ ?_)
      refine WC.ret ?_
      refine QX.block_ret ?_
      refine QX.then_ret ?_
      refine QX.then_ret ?_
      refine QX.block_ret ?_
      refine QX.then_ret ?_
      refine (hret _ _ _ rfl ?_).1
      clear hN hret hret' hK45 hK42 hK40 hK23 hK21 hK18 hK16 hK8 hK6 hK4 hK2
      exact ⟨_, rfl, hC38.fr⟩
    · -- (n + (1 + (e24.n : Int))) > 800: false
      have t43 : (n + (1 + (e24.n : Int))) ≤ 800 := by have q_ := of_decide_eq_false t43b; omega
      refine WC.cond_false rfl ?_
      refine WC.skip ?_
      refine QX.block_normal ?_
      refine QX.then_normal (hK21 _ _ ?_)
      refine WC.region ?_
      refine WL.runs 1 [(20, .int .i64 (IntKind.i64.wrap ((i : Int) + 1)))] (fun _ => by kernel_rfl) ?_
      refine WL.recast (show (.int .i64 (IntKind.i64.wrap ((i : Int) + 1)) : Value) = .int .i64 ((i : Int) + 1) from by rw [wrap_in_i64 ((i : Int) + 1) (by omega) (by omega)]) ?_
      refine WL.runs 1 [(8, .int .i64 ((i : Int) + 1))] (fun _ => by kernel_rfl) ?_
      refine WL.done rfl ?_
      refine QX.then_normal ?_
      have hC46 := hC38.pick [] [] rfl rfl
      refine fun a_ ha_ => hK10 _ _ _ ?_ ⟨i + 1, n + (1 + (e24.n : Int)), rfl, rfl, hC46, by omega, by omega, by omega⟩ a_ (ha_.weaken (sub_of ⟨rfl, rfl, rfl, rfl, rfl, trivial⟩))
      omega
  · -- (i : Int) < (ops.length : Int): false
    have t19 : (ops.length : Int) ≤ (i : Int) := by have q_ := of_decide_eq_false t19b; omega
    refine WC.cond_false rfl ?_
    refine WC.exit ?_
    refine QX.then_exit ?_
    refine QX.then_exit ?_
    refine QX.block_hit ?_
    refine QX.then_normal (hK6 _ _ ?_)
    refine WC.seq (fun K47 hK48 => ?_)
    refine WC.region ?_
    refine WL.runs 1 [(2, .bool false)] (fun _ => by kernel_rfl) ?_
    refine WL.done rfl ?_
    refine QX.then_normal (hK48 _ _ ?_)
    refine WC.ret ?_
    refine (hret _ _ _ rfl ?_).1
    clear hN hret hret' hK48 hK18 hK16 hK8 hK6 hK4 hK2
    exact ⟨_, rfl, hC14.fr⟩

theorem umod_nat (x : Int) (m : Nat) (h0 : 0 < m) (h1 : m ≤ 4096) : ∃ k : Nat, IntKind.i64.wrap (Int.tmod (IntKind.u64.wrap x) (m : Int)) = (k : Int) ∧ k < m := by
  have h := wrap_u64_span x
  refine ⟨(Int.tmod (IntKind.u64.wrap x) (m : Int)).toNat, ?_, ?_⟩
  · rw [Int.tmod_eq_emod_of_nonneg h.1, wrap_in_i64]
    · rw [Int.toNat_of_nonneg (Int.emod_nonneg _ (by omega))]
    · have := Int.emod_nonneg (IntKind.u64.wrap x) (show (m : Int) ≠ 0 by omega); omega
    · have := Int.emod_lt_of_pos (IntKind.u64.wrap x) (show (0 : Int) < m by omega); omega
  · rw [Int.tmod_eq_emod_of_nonneg h.1]
    have := Int.emod_nonneg (IntKind.u64.wrap x) (show (m : Int) ≠ 0 by omega)
    have := Int.emod_lt_of_pos (IntKind.u64.wrap x) (show (0 : Int) < m by omega)
    omega
set_option maxHeartbeats 2000000 in
theorem WheelSlots_ct (a b : Int) (C : Option Addr) (c : Nat) (ops : List WOp) (w : World) (hops : Rd w 3 cellW C ops) (hok : ∀ o ∈ ops, wopAt w o) (hbk : totW ops ≤ 1048576) : Calls Try.prog 4 #[.int .i64 a, .int .i64 b, .slice C ops.length c] w fun e w' => e = .returned (.bool true) ∧ Fr w w' [] := by
  refine enterD (n := 110) Try.func4 rfl rfl (Nat.le_of_ble_eq_true rfl) ?_
  intro Q0 hN hret hret'
  have htl_ := totW_len ops
  have hC := Cx.start w
  refine WC.seq (fun K1 hK2 => ?_)
  refine WC.region ?_
  refine WL.runs 1 [(6, .bool false)] (fun _ => by kernel_rfl) ?_
  refine WL.done rfl ?_
  refine QX.then_normal (hK2 _ _ ?_)
  refine WC.seq (fun K3 hK4 => ?_)
  refine WC.seq (fun K5 hK6 => ?_)
  refine WC.region ?_
  refine WL.call rfl rfl rfl rfl rfl (by kernel_rfl) (alive_ct w) ?_
  rintro _ w8 ⟨rfl, hF7⟩
  refine ⟨_, rfl, ?_⟩
  have hC9 := hC.call hF7
  refine WL.runs 1 [(14, .bool false)] (fun _ => by kernel_rfl) ?_
  refine WL.done rfl ?_
  refine QX.then_normal (hK6 _ _ ?_)
  refine WC.cond_false rfl ?_
  refine WC.skip ?_
  refine QX.then_normal (hK4 _ _ ?_)
  refine WC.seq (fun K10 hK11 => ?_)
  refine WC.region ?_
  obtain ⟨na, hna_, lna_⟩ := umod_nat a 1024 (by decide) (by decide)
  refine WL.runs 4 [(18, .int .i64 (IntKind.i64.wrap (Int.tmod (IntKind.u64.wrap (a)) 1024))), (17, .int .u64 (Int.tmod (IntKind.u64.wrap (a)) 1024)), (16, .int .u64 (IntKind.u64.wrap (a))), (15, .int .i64 a)] (fun _ => by kernel_rfl) ?_
  refine WL.recast (show (.int .i64 (IntKind.i64.wrap (Int.tmod (IntKind.u64.wrap (a)) 1024)) : Value) = .int .i64 (na : Int) from congrArg (Value.int .i64) hna_) ?_
  refine WL.runs 1 [(19, .int .i64 (IntKind.i64.wrap (1 + (na : Int))))] (fun _ => by kernel_rfl) ?_
  refine WL.recast (show (.int .i64 (IntKind.i64.wrap (1 + (na : Int))) : Value) = .int .i64 (1 + (na : Int)) from by rw [wrap_in_i64 (1 + (na : Int)) (by omega) (by omega)]) ?_
  obtain ⟨nb, hnb_, lnb_⟩ := umod_nat b 1024 (by decide) (by decide)
  refine WL.runs 4 [(23, .int .i64 (IntKind.i64.wrap (Int.tmod (IntKind.u64.wrap (b)) 1024))), (22, .int .u64 (Int.tmod (IntKind.u64.wrap (b)) 1024)), (21, .int .u64 (IntKind.u64.wrap (b))), (20, .int .i64 b)] (fun _ => by kernel_rfl) ?_
  refine WL.recast (show (.int .i64 (IntKind.i64.wrap (Int.tmod (IntKind.u64.wrap (b)) 1024)) : Value) = .int .i64 (nb : Int) from congrArg (Value.int .i64) hnb_) ?_
  refine WL.runs 1 [(24, .int .i64 (IntKind.i64.wrap (1 + (nb : Int))))] (fun _ => by kernel_rfl) ?_
  refine WL.recast (show (.int .i64 (IntKind.i64.wrap (1 + (nb : Int))) : Value) = .int .i64 (1 + (nb : Int)) from by rw [wrap_in_i64 (1 + (nb : Int)) (by omega) (by omega)]) ?_
  refine WL.runs 2 [(1, .int .i64 (1 + (nb : Int))), (0, .int .i64 (1 + (na : Int)))] (fun _ => by kernel_rfl) ?_
  refine WL.done rfl ?_
  refine QX.then_normal (hK11 _ _ ?_)
  refine WC.seq (fun K12 hK13 => ?_)
  refine WC.seq (fun K14 hK15 => ?_)
  refine WC.region ?_
  refine WL.runs 1 [(25, .slice C ops.length c)] (fun _ => by kernel_rfl) ?_
  refine WL.call rfl rfl rfl rfl rfl (by kernel_rfl) (long_ct C c ops w8 (Rd.fr hops hC9.fr) (fun o_ h_ => (hok o_ h_).fr hC9.fr) hbk) ?_
  rintro _ w18 ⟨b16, rfl, hF17⟩
  refine ⟨_, rfl, ?_⟩
  have hC19 := hC9.call hF17
  refine WL.done rfl ?_
  refine QX.then_normal (hK15 _ _ ?_)
  refine WC.test_at 26 (b16) rfl (fun t20b => ?_) (fun t20b => ?_)
  · -- b16 = true: true
    refine WC.cond_true rfl ?_
    refine WC.seq (fun K21 hK22 => ?_)
    refine WC.region ?_
    refine WL.runs 1 [(6, .bool true)] (fun _ => by kernel_rfl) ?_
    refine WL.done rfl ?_
    refine QX.then_normal (hK22 _ _ ?_)
    refine WC.ret ?_
    refine QX.then_ret ?_
    refine (hret _ _ _ rfl ?_).1
    clear hN hret hret' hK22 hK15 hK13 hK11 hK6 hK4 hK2
    exact ⟨rfl, hC19.fr⟩
  · -- b16 = true: false
    refine WC.cond_false rfl ?_
    refine WC.skip ?_
    refine QX.then_normal (hK13 _ _ ?_)
    refine WC.seq (fun K23 hK24 => ?_)
    refine WC.region ?_
    refine WL.runs 1 [(28, .int .i64 (1 + (na : Int)))] (fun _ => by kernel_rfl) ?_
    refine WL.call rfl rfl rfl rfl rfl (by kernel_rfl) (New_z (1 + (na : Int)) w18 (by omega) (by omega)) ?_
    rintro _ w30 ⟨p25, F26, rfl, hF29, hT27, hge28⟩
    have hC31 := hC19.callN hF29 hge28 (whAt_lt hT27)
    refine ⟨_, rfl, ?_⟩
    refine WL.runs 5 [(8, .nilIface), (7, .pointer (some ⟨p25, 0, none⟩)), (31, .nilIface), (30, .pointer (some ⟨p25, 0, none⟩)), (27, .tuple #[.pointer (some ⟨p25, 0, none⟩), .nilIface])] (fun _ => by kernel_rfl) ?_
    refine WL.done rfl ?_
    refine QX.then_normal (hK24 _ _ ?_)
    refine WC.seq (fun K33 hK34 => ?_)
    refine WC.region ?_
    refine WL.runs 1 [(33, .int .i64 (1 + (nb : Int)))] (fun _ => by kernel_rfl) ?_
    refine WL.call rfl rfl rfl rfl rfl (by kernel_rfl) (New_z (1 + (nb : Int)) w30 (by omega) (by omega)) ?_
    rintro _ w40 ⟨p35, F36, rfl, hF39, hT37, hge38⟩
    have hC41 := hC31.callN hF39 hge38 (whAt_lt hT37)
    refine ⟨_, rfl, ?_⟩
    have hf42 := whAt_fr hT27 hF39 (by simp)
    refine WL.runs 5 [(10, .nilIface), (9, .pointer (some ⟨p35, 0, none⟩)), (36, .nilIface), (35, .pointer (some ⟨p35, 0, none⟩)), (32, .tuple #[.pointer (some ⟨p35, 0, none⟩), .nilIface])] (fun _ => by kernel_rfl) ?_
    refine WL.done rfl ?_
    refine QX.then_normal (hK34 _ _ ?_)
    refine WC.seq (fun K44 hK45 => ?_)
    refine WC.seq (fun K46 hK47 => ?_)
    refine WC.region ?_
    refine WL.runs 14 [(50, .bool false), (49, .bool false), (48, .pointer (some ⟨p35, 0, none⟩)), (47, .bool false), (46, .bool false), (45, .bool false), (44, .pointer (some ⟨p25, 0, none⟩)), (43, .bool false), (42, .bool false), (41, .bool false), (40, .nilIface), (39, .bool false), (38, .bool false), (37, .nilIface)] (fun _ => by kernel_rfl) ?_
    refine WL.done rfl ?_
    refine QX.then_normal (hK47 _ _ ?_)
    refine WC.cond_false rfl ?_
    refine WC.skip ?_
    refine QX.then_normal (hK45 _ _ ?_)
    refine WC.seq (fun K48 hK49 => ?_)
    refine WC.seq (fun K50 hK51 => ?_)
    refine WC.region ?_
    refine WL.runs 3 [(53, .int .i64 0), (52, .int .i64 (ops.length : Int)), (51, .slice C ops.length c)] (fun _ => by kernel_rfl) ?_
    refine WL.done rfl ?_
    refine QX.then_normal (hK51 _ _ ?_)
    refine WC.block ?_
    refine WC.loop (fun m_ E_ w_ => ∃ (i : Nat) (F5 F6 : List Nat) (m5 : List (Int × Int)) (h5 : Int), m_ = ops.length - i ∧ E_ = [(0, .int .i64 (1 + (na : Int))), (1, .int .i64 (1 + (nb : Int))), (2, .slice C ops.length c), (7, .pointer (some ⟨p25, 0, none⟩)), (9, .pointer (some ⟨p35, 0, none⟩)), (51, .slice C ops.length c), (52, .int .i64 (ops.length : Int)), (53, .int .i64 (i : Int))] ∧ Cx w [] w_ [] [F5, F6] ∧ whAt w_ F5 p25 (Int.toNat (1 + (na : Int))) m5 h5 ∧ whAt w_ F6 p35 (Int.toNat (1 + (nb : Int))) m5 h5 ∧ (i ≤ ops.length ∧ handOk m5 h5 ∧ m5.length ≤ totW (ops.take i))) ⟨_, _, ⟨0, F26, F36, [], 0, rfl, rfl, hC41, hf42, hT37, Nat.zero_le _, ⟨by omega, (fun _ h_ => nomatch h_)⟩, Nat.zero_le _⟩, sub_of ⟨rfl, rfl, rfl, rfl, rfl, rfl, rfl, rfl, trivial⟩⟩ (fun m55 E_ w56 K52 hK53 hI54 => ?_)
    obtain ⟨i, F5, F6, m5, h5, rfl, rfl, hC57, hx5, hy5, hi, hhd, hml5⟩ := hI54
    have hok5_ := whAt_ok hx5
    have htl5_ := totW_le ops i
    refine WC.seq (fun K58 hK59 => ?_)
    refine WC.region ?_
    refine WL.runs 1 [(54, .bool (decide ((i : Int) < (ops.length : Int))))] (fun _ => by kernel_rfl) ?_
    refine WL.done rfl ?_
    refine QX.then_normal (hK59 _ _ ?_)
    refine WC.seq (fun K60 hK61 => ?_)
    refine WC.test_at 54 (decide ((i : Int) < (ops.length : Int))) rfl (fun t62b => ?_) (fun t62b => ?_)
    · -- (i : Int) < (ops.length : Int): true
      have t62 : (i : Int) < (ops.length : Int) := by have q_ := of_decide_eq_true t62b; omega
      refine WC.cond_true rfl ?_
      refine WC.skip ?_
      refine QX.then_normal (hK61 _ _ ?_)
      refine WC.seq (fun K63 hK64 => ?_)
      refine WC.block ?_
      refine WC.seq (fun K65 hK66 => ?_)
      refine WC.region ?_
      obtain ⟨e67, he68⟩ := get_some (xs := ops) (i := i) (by omega)
      obtain ⟨b69, o71, hA70, hc72⟩ := hops.at_ _ _ he68
      have hop_e67 := hok _ (List.mem_of_getElem? he68)
      have htm_e67 := totW_mem (List.mem_of_getElem? he68)
      have hle_e67 := hop_e67.len
      refine WL.index C ops.length c 55 .i64 (i : Int) b69 o71 i 3 (by kernel_rfl) hA70 (by omega) (by omega) (o71 + i * 3) (by first | (simp; done) | omega) ?_
      refine WL.load 36 (.pointer (some ⟨b69, o71 + i * 3, none⟩)) (.agg #[.int .i64 e67.kind, .int .i64 e67.at_, .slice e67.A e67.n e67.c]) 56 (by kernel_rfl) (run_rdN (l := [.int .i64 e67.kind, .int .i64 e67.at_, .slice e67.A e67.n e67.c]) rfl rfl (fun j u hu => by have hq_ := hC57.fr.cell (hc72 j u hu) (by simp); simpa [Nat.add_assoc] using hq_)) ?_
      have hai_ := hop_e67.hi
      rcases (show (e67.at_ < 0 ∨ 1099511627776 < e67.at_) ∨ (0 ≤ e67.at_ ∧ e67.at_ ≤ 1099511627776) by omega) with hb73 | hb73
      · skip
        refine WL.newM hC57 (fun b => .pointer (some ⟨b, 0, none⟩)) (.cells #[.int .i64 0, .int .i64 0, .slice none 0 0] 36) 12 (fun _ => by kernel_rfl) (fun g74 w75 hb78 hF76 hC77 => ?_)
        have hf79 := whAt_fr hx5 hF76 (by simp)
        have hf80 := whAt_fr hy5 hF76 (by simp)
        refine WL.storeM (c' := #[.int .i64 e67.kind, .int .i64 e67.at_, .slice e67.A e67.n e67.c]) hC77 0 36 g74 0 (.agg #[.int .i64 e67.kind, .int .i64 e67.at_, .slice e67.A e67.n e67.c]) (by kernel_rfl) rfl (by kernel_rfl) (fun w81 hF83 hC84 => ?_)
        have hf85 := whAt_fr hf79 hF83 (hC77.apartM 0 0 rfl rfl)
        have hf86 := whAt_fr hf80 hF83 (hC77.apartM 1 0 rfl rfl)
        refine WL.done rfl ?_
        refine QX.then_normal (hK66 _ _ ?_)
        refine WC.seq (fun K87 hK88 => ?_)
        refine WC.region ?_
        refine WL.runs 1 [(57, .pointer (some ⟨g74, 0, none⟩))] (fun _ => by kernel_rfl) ?_
        refine WL.load 3 (.pointer (some ⟨g74, 0, none⟩)) (.int .i64 e67.kind) 58 (by kernel_rfl) (run_ld (hC84.get 0 rfl) rfl) ?_
        refine WL.done rfl ?_
        refine QX.then_normal (hK88 _ _ ?_)
        refine WC.block ?_
        refine WC.seq (fun K89 hK90 => ?_)
        refine WC.region ?_
        refine WL.runs 2 [(69, .bool (e67.kind == 0)), (70, .bool (e67.kind == 0))] (fun _ => by kernel_rfl) ?_
        refine WL.done rfl ?_
        refine QX.then_normal (hK90 _ _ ?_)
        refine WC.test_at 69 (e67.kind == 0) rfl (fun t91b => ?_) (fun t91b => ?_)
        · -- e67.kind = 0: true
          have t91 : e67.kind = 0 := by simpa using t91b
          refine WC.cond_true rfl ?_
          refine WC.seq (fun K92 hK93 => ?_)
          refine WC.drawC hC84 (F5 ++ F6) (by kernel_rfl) (fun w94 hF95 hC96 hS97 => ?_)
          have hf98 := whAt_fr hf85 hF95 (by simp)
          have hf99 := whAt_fr hf86 hF95 (by simp)
          refine WD.pure (NoPanic.then (NoPanic.block (NoPanic.block (NoPanic.then (NoPanic.then (NoPanic.block (NoPanic.then hN))))))) 0 71 (.pointer (some ⟨p25, 0, none⟩)) (by kernel_rfl) (fun _ => by kernel_rfl) hS97 ?_
          refine WD.pure (NoPanic.then (NoPanic.block (NoPanic.block (NoPanic.then (NoPanic.then (NoPanic.block (NoPanic.then hN))))))) 1 72 (.pointer (some ⟨g74, 1, none⟩)) (by kernel_rfl) (fun _ => by kernel_rfl) hS97 ?_
          refine WD.pure (NoPanic.then (NoPanic.block (NoPanic.block (NoPanic.then (NoPanic.then (NoPanic.block (NoPanic.then hN))))))) 3 74 (.pointer (some ⟨g74, 2, none⟩)) (by kernel_rfl) (fun _ => by kernel_rfl) hS97 ?_
          refine WD.pure (NoPanic.then (NoPanic.block (NoPanic.block (NoPanic.then (NoPanic.then (NoPanic.block (NoPanic.then hN))))))) 7 78 (.pointer (some ⟨p35, 0, none⟩)) (by kernel_rfl) (fun _ => by kernel_rfl) hS97 ?_
          refine WD.pure (NoPanic.then (NoPanic.block (NoPanic.block (NoPanic.then (NoPanic.then (NoPanic.block (NoPanic.then hN))))))) 8 79 (.pointer (some ⟨g74, 1, none⟩)) (by kernel_rfl) (fun _ => by kernel_rfl) hS97 ?_
          refine WD.pure (NoPanic.then (NoPanic.block (NoPanic.block (NoPanic.then (NoPanic.then (NoPanic.block (NoPanic.then hN))))))) 10 81 (.pointer (some ⟨g74, 2, none⟩)) (by kernel_rfl) (fun _ => by kernel_rfl) hS97 ?_
          refine WD.load (NoPanic.then (NoPanic.block (NoPanic.block (NoPanic.then (NoPanic.then (NoPanic.block (NoPanic.then hN))))))) 2 3 (.pointer (some ⟨g74, 1, none⟩)) (.int .i64 e67.at_) 73 (by kernel_rfl) (by kernel_rfl) (fun _ hS_ => run_ld (Fr.has hS_ (hC96.get 0 rfl) (fun h_ => (List.mem_append.1 h_).elim (hC96.notin 0 0 rfl rfl) (hC96.notin 1 0 rfl rfl))) rfl) hS97 ?_
          refine WD.load (NoPanic.then (NoPanic.block (NoPanic.block (NoPanic.then (NoPanic.then (NoPanic.block (NoPanic.then hN))))))) 4 22 (.pointer (some ⟨g74, 2, none⟩)) (.slice e67.A e67.n e67.c) 75 (by kernel_rfl) (by kernel_rfl) (fun _ hS_ => run_ld (Fr.has hS_ (hC96.get 0 rfl) (fun h_ => (List.mem_append.1 h_).elim (hC96.notin 0 0 rfl rfl) (hC96.notin 1 0 rfl rfl))) rfl) hS97 ?_
          refine WD.load (NoPanic.then (NoPanic.block (NoPanic.block (NoPanic.then (NoPanic.then (NoPanic.block (NoPanic.then hN))))))) 9 3 (.pointer (some ⟨g74, 1, none⟩)) (.int .i64 e67.at_) 80 (by kernel_rfl) (by kernel_rfl) (fun _ hS_ => run_ld (Fr.has hS_ (hC96.get 0 rfl) (fun h_ => (List.mem_append.1 h_).elim (hC96.notin 0 0 rfl rfl) (hC96.notin 1 0 rfl rfl))) rfl) hS97 ?_
          refine WD.load (NoPanic.then (NoPanic.block (NoPanic.block (NoPanic.then (NoPanic.then (NoPanic.block (NoPanic.then hN))))))) 11 22 (.pointer (some ⟨g74, 2, none⟩)) (.slice e67.A e67.n e67.c) 82 (by kernel_rfl) (by kernel_rfl) (fun _ hS_ => run_ld (Fr.has hS_ (hC96.get 0 rfl) (fun h_ => (List.mem_append.1 h_).elim (hC96.notin 0 0 rfl rfl) (hC96.notin 1 0 rfl rfl))) rfl) hS97 ?_
          refine WD.call 5 (by kernel_rfl) rfl rfl rfl rfl rfl (by kernel_rfl) (Set_no p25 e67.at_ e67.A e67.n e67.c w94 (hb73)) ?_
          rintro _ w101 ⟨rfl, hF100⟩
          have hS103 := hS97.trans hF100 (by simp)
          refine ⟨_, rfl, hS103, ?_⟩
          have hC102 := hC96.call hF100
          have hf104 := whAt_fr hf98 hF100 (by simp)
          have hf105 := whAt_fr hf99 hF100 (by simp)
          refine WD.call 6 (by kernel_rfl) rfl rfl rfl rfl rfl (by kernel_rfl) (Num_some 4 w101 (by decide)) ?_
          rintro _ w107 ⟨rfl, hF106⟩
          have hS109 := hS103.trans hF106 (by simp)
          refine ⟨_, rfl, hS109, ?_⟩
          have hC108 := hC102.call hF106
          have hf110 := whAt_fr hf104 hF106 (by simp)
          have hf111 := whAt_fr hf105 hF106 (by simp)
          refine WD.call 12 (by kernel_rfl) rfl rfl rfl rfl rfl (by kernel_rfl) (Set_no p35 e67.at_ e67.A e67.n e67.c w107 (hb73)) ?_
          rintro _ w113 ⟨rfl, hF112⟩
          have hS115 := hS109.trans hF112 (by simp)
          refine ⟨_, rfl, hS115, ?_⟩
          have hC114 := hC108.call hF112
          have hf116 := whAt_fr hf110 hF112 (by simp)
          have hf117 := whAt_fr hf111 hF112 (by simp)
          refine WD.call 13 (by kernel_rfl) rfl rfl rfl rfl rfl (by kernel_rfl) (Num_some 4 w113 (by decide)) ?_
          rintro _ w119 ⟨rfl, hF118⟩
          have hS121 := hS115.trans hF118 (by simp)
          refine ⟨_, rfl, hS121, ?_⟩
          have hC120 := hC114.call hF118
          have hf122 := whAt_fr hf116 hF118 (by simp)
          have hf123 := whAt_fr hf117 hF118 (by simp)
          refine WD.pure (NoPanic.then (NoPanic.block (NoPanic.block (NoPanic.then (NoPanic.then (NoPanic.block (NoPanic.then hN))))))) 14 85 (.bool false) (by kernel_rfl) (fun _ => by kernel_rfl) hS121 ?_
          refine WD.done (by kernel_rfl) ?_
          refine QX.then_normal (hK93 _ _ ?_)
          refine WC.cond_false rfl ?_
          refine WC.skip ?_
          refine QX.block_normal ?_
          refine QX.block_normal ?_
          refine QX.then_normal (hK64 _ _ ?_)
          refine WC.region ?_
          refine WL.runs 1 [(97, .int .i64 (IntKind.i64.wrap ((i : Int) + 1)))] (fun _ => by kernel_rfl) ?_
          refine WL.recast (show (.int .i64 (IntKind.i64.wrap ((i : Int) + 1)) : Value) = .int .i64 ((i : Int) + 1) from by rw [wrap_in_i64 ((i : Int) + 1) (by omega) (by omega)]) ?_
          refine WL.runs 1 [(53, .int .i64 ((i : Int) + 1))] (fun _ => by kernel_rfl) ?_
          refine WL.done rfl ?_
          refine QX.then_normal ?_
          have hC124 := hC120.pick [] [0, 1] rfl rfl
          refine fun a_ ha_ => hK53 _ _ _ ?_ ⟨i + 1, F5, F6, m5, h5, rfl, rfl, hC124, hf122, hf123, by omega, hhd, by rw [totW_take he68]; omega⟩ a_ (ha_.weaken (sub_of ⟨rfl, rfl, rfl, rfl, rfl, rfl, rfl, rfl, trivial⟩))
          omega
        · -- e67.kind = 0: false
          have t91 : ¬ (e67.kind = 0) := by simpa using t91b
          refine WC.cond_false rfl ?_
          refine WC.seq (fun K125 hK126 => ?_)
          refine WC.region ?_
          refine WL.runs 2 [(86, .bool (e67.kind == 1)), (87, .bool (e67.kind == 1))] (fun _ => by kernel_rfl) ?_
          refine WL.done rfl ?_
          refine QX.then_normal (hK126 _ _ ?_)
          refine WC.test_at 86 (e67.kind == 1) rfl (fun t127b => ?_) (fun t127b => ?_)
          · -- e67.kind = 1: true
            have t127 : e67.kind = 1 := by simpa using t127b
            refine WC.cond_true rfl ?_
            refine WC.seq (fun K128 hK129 => ?_)
            refine WC.drawC hC84 (F5 ++ F6) (by kernel_rfl) (fun w130 hF131 hC132 hS133 => ?_)
            have hf134 := whAt_fr hf85 hF131 (by simp)
            have hf135 := whAt_fr hf86 hF131 (by simp)
            refine WD.pure (NoPanic.then (NoPanic.block (NoPanic.block (NoPanic.then (NoPanic.then (NoPanic.block (NoPanic.then hN))))))) 0 88 (.pointer (some ⟨p25, 0, none⟩)) (by kernel_rfl) (fun _ => by kernel_rfl) hS133 ?_
            refine WD.pure (NoPanic.then (NoPanic.block (NoPanic.block (NoPanic.then (NoPanic.then (NoPanic.block (NoPanic.then hN))))))) 1 89 (.pointer (some ⟨g74, 2, none⟩)) (by kernel_rfl) (fun _ => by kernel_rfl) hS133 ?_
            refine WD.pure (NoPanic.then (NoPanic.block (NoPanic.block (NoPanic.then (NoPanic.then (NoPanic.block (NoPanic.then hN))))))) 4 92 (.pointer (some ⟨p35, 0, none⟩)) (by kernel_rfl) (fun _ => by kernel_rfl) hS133 ?_
            refine WD.pure (NoPanic.then (NoPanic.block (NoPanic.block (NoPanic.then (NoPanic.then (NoPanic.block (NoPanic.then hN))))))) 5 93 (.pointer (some ⟨g74, 2, none⟩)) (by kernel_rfl) (fun _ => by kernel_rfl) hS133 ?_
            refine WD.load (NoPanic.then (NoPanic.block (NoPanic.block (NoPanic.then (NoPanic.then (NoPanic.block (NoPanic.then hN))))))) 2 22 (.pointer (some ⟨g74, 2, none⟩)) (.slice e67.A e67.n e67.c) 90 (by kernel_rfl) (by kernel_rfl) (fun _ hS_ => run_ld (Fr.has hS_ (hC132.get 0 rfl) (fun h_ => (List.mem_append.1 h_).elim (hC132.notin 0 0 rfl rfl) (hC132.notin 1 0 rfl rfl))) rfl) hS133 ?_
            refine WD.load (NoPanic.then (NoPanic.block (NoPanic.block (NoPanic.then (NoPanic.then (NoPanic.block (NoPanic.then hN))))))) 6 22 (.pointer (some ⟨g74, 2, none⟩)) (.slice e67.A e67.n e67.c) 94 (by kernel_rfl) (by kernel_rfl) (fun _ hS_ => run_ld (Fr.has hS_ (hC132.get 0 rfl) (fun h_ => (List.mem_append.1 h_).elim (hC132.notin 0 0 rfl rfl) (hC132.notin 1 0 rfl rfl))) rfl) hS133 ?_
            refine WD.call 3 (by kernel_rfl) rfl rfl rfl rfl rfl (by kernel_rfl) (Cancel_n F5 p25 (Int.toNat (1 + (na : Int))) m5 h5 e67.A e67.n e67.c e67.ks w130 hf134 (Rd.fr hop_e67.row hC132.fr) hop_e67.len (by omega) (fun b_ off_ e_ n_ hx_ => absurd (rd_lt hop_e67.row (fun _ => by simp [Go.Tw.encI_len]) e_ n_) (Nat.not_lt.2 ((hC132.ownF _ (List.mem_of_getElem? (show _ = some F5 from (rfl : ([F5, F6] : List (List Nat))[0]? = _))) b_ hx_).resolve_left (fun h_ => nomatch h_))))) ?_
            rintro _ w137 ⟨F140, rfl, hF136, hT139, hsub141⟩
            have hT139' : whAt w137 F140 p25 (Int.toNat (1 + (na : Int))) (canL m5 e67.ks) h5 := hT139
            have hC138 := hC132.callF 0 rfl hF136 hsub141 (whAt_lt hT139')
            have hS142 := hS133.trans hF136 (fun x_ hx_ => .inl (by simp [hx_]))
            refine ⟨_, rfl, hS142, ?_⟩
            have hf143 := whAt_fr hf135 hF136 (hC132.disj 1 0 rfl rfl (by decide))
            refine WD.call 7 (by kernel_rfl) rfl rfl rfl rfl rfl (by kernel_rfl) (Cancel_n F6 p35 (Int.toNat (1 + (nb : Int))) m5 h5 e67.A e67.n e67.c e67.ks w137 hf143 (Rd.fr hop_e67.row hC138.fr) hop_e67.len (by omega) (fun b_ off_ e_ n_ hx_ => absurd (rd_lt hop_e67.row (fun _ => by simp [Go.Tw.encI_len]) e_ n_) (Nat.not_lt.2 ((hC138.ownF _ (List.mem_of_getElem? (show _ = some F6 from (rfl : ([F140, F6] : List (List Nat))[1]? = _))) b_ hx_).resolve_left (fun h_ => nomatch h_))))) ?_
            rintro _ w145 ⟨F148, rfl, hF144, hT147, hsub149⟩
            have hT147' : whAt w145 F148 p35 (Int.toNat (1 + (nb : Int))) (canL m5 e67.ks) h5 := hT147
            have hC146 := hC138.callF 1 rfl hF144 hsub149 (whAt_lt hT147')
            have hS150 := hS142.trans hF144 (fun x_ hx_ => .inl (by simp [hx_]))
            refine ⟨_, rfl, hS150, ?_⟩
            have hf151 := whAt_fr hT139' hF144 (hC138.disj 0 1 rfl rfl (by decide))
            refine WD.pure (NoPanic.then (NoPanic.block (NoPanic.block (NoPanic.then (NoPanic.then (NoPanic.block (NoPanic.then hN))))))) 8 96 (.bool ((canN m5 e67.ks : Int) != (canN m5 e67.ks : Int))) (by kernel_rfl) (fun _ => by kernel_rfl) hS150 ?_
            refine WD.done (by kernel_rfl) ?_
            refine QX.then_normal (hK129 _ _ ?_)
            refine WC.know 96 (.bool ((canN m5 e67.ks : Int) != (canN m5 e67.ks : Int))) (.bool false) rfl (congrArg Value.bool (by simp)) ?_
            refine WC.cond_false rfl ?_
            refine WC.skip ?_
            refine QX.block_normal ?_
            refine QX.block_normal ?_
            refine QX.then_normal (hK64 _ _ ?_)
            refine WC.region ?_
            refine WL.runs 1 [(97, .int .i64 (IntKind.i64.wrap ((i : Int) + 1)))] (fun _ => by kernel_rfl) ?_
            refine WL.recast (show (.int .i64 (IntKind.i64.wrap ((i : Int) + 1)) : Value) = .int .i64 ((i : Int) + 1) from by rw [wrap_in_i64 ((i : Int) + 1) (by omega) (by omega)]) ?_
            refine WL.runs 1 [(53, .int .i64 ((i : Int) + 1))] (fun _ => by kernel_rfl) ?_
            refine WL.done rfl ?_
            refine QX.then_normal ?_
            have hC152 := hC146.pick [] [0, 1] rfl rfl
            refine fun a_ ha_ => hK53 _ _ _ ?_ ⟨i + 1, F140, F148, canL m5 e67.ks, h5, rfl, rfl, hC152, hf151, hT147', by omega, hhd.can hok5_.2.1, by have q_ := canL_len2 m5 e67.ks; rw [totW_take he68]; omega⟩ a_ (ha_.weaken (sub_of ⟨rfl, rfl, rfl, rfl, rfl, rfl, rfl, rfl, trivial⟩))
            omega
          · -- e67.kind = 1: false
            have t127 : ¬ (e67.kind = 1) := by simpa using t127b
            refine WC.cond_false rfl ?_
            refine WC.seq (fun K153 hK154 => ?_)
            refine WC.drawC hC84 (F5 ++ F6) (by kernel_rfl) (fun w155 hF156 hC157 hS158 => ?_)
            have hf159 := whAt_fr hf85 hF156 (by simp)
            have hf160 := whAt_fr hf86 hF156 (by simp)
            refine WD.pure (NoPanic.then (NoPanic.block (NoPanic.block (NoPanic.then (NoPanic.then (NoPanic.block (NoPanic.then hN))))))) 0 59 (.pointer (some ⟨p25, 0, none⟩)) (by kernel_rfl) (fun _ => by kernel_rfl) hS158 ?_
            refine WD.pure (NoPanic.then (NoPanic.block (NoPanic.block (NoPanic.then (NoPanic.then (NoPanic.block (NoPanic.then hN))))))) 1 60 (.pointer (some ⟨g74, 1, none⟩)) (by kernel_rfl) (fun _ => by kernel_rfl) hS158 ?_
            refine WD.pure (NoPanic.then (NoPanic.block (NoPanic.block (NoPanic.then (NoPanic.then (NoPanic.block (NoPanic.then hN))))))) 4 63 (.pointer (some ⟨p35, 0, none⟩)) (by kernel_rfl) (fun _ => by kernel_rfl) hS158 ?_
            refine WD.pure (NoPanic.then (NoPanic.block (NoPanic.block (NoPanic.then (NoPanic.then (NoPanic.block (NoPanic.then hN))))))) 5 64 (.pointer (some ⟨g74, 1, none⟩)) (by kernel_rfl) (fun _ => by kernel_rfl) hS158 ?_
            refine WD.load (NoPanic.then (NoPanic.block (NoPanic.block (NoPanic.then (NoPanic.then (NoPanic.block (NoPanic.then hN))))))) 2 3 (.pointer (some ⟨g74, 1, none⟩)) (.int .i64 e67.at_) 61 (by kernel_rfl) (by kernel_rfl) (fun _ hS_ => run_ld (Fr.has hS_ (hC157.get 0 rfl) (fun h_ => (List.mem_append.1 h_).elim (hC157.notin 0 0 rfl rfl) (hC157.notin 1 0 rfl rfl))) rfl) hS158 ?_
            refine WD.load (NoPanic.then (NoPanic.block (NoPanic.block (NoPanic.then (NoPanic.then (NoPanic.block (NoPanic.then hN))))))) 6 3 (.pointer (some ⟨g74, 1, none⟩)) (.int .i64 e67.at_) 65 (by kernel_rfl) (by kernel_rfl) (fun _ hS_ => run_ld (Fr.has hS_ (hC157.get 0 rfl) (fun h_ => (List.mem_append.1 h_).elim (hC157.notin 0 0 rfl rfl) (hC157.notin 1 0 rfl rfl))) rfl) hS158 ?_
            have hcl_ := canL_len2 m5 (dueK m5 e67.at_)
            refine WD.call 3 (by kernel_rfl) rfl rfl rfl rfl rfl (by kernel_rfl) (Due_to F5 p25 (Int.toNat (1 + (na : Int))) m5 h5 e67.at_ w155 (dueK m5 e67.at_) (canL m5 (dueK m5 e67.at_)) (dueH h5 e67.at_) (rfl) (rfl) (rfl) hf159 hhd.1.1 hhd.1.2 (by omega) hhd.2 (by omega)) ?_
            rintro _ w168 ⟨v161, F162, rfl, hF163, hT164, hsub165, ho166, hd167⟩
            have hC169 := hC157.callFN 0 rfl hF163 hsub165 (whAt_lt hT164) (own_ge ho166) (own_lt ho166) (fun x_ hx_ h_ => hd167 x_ h_ hx_)
            obtain ⟨A170, c171, rfl, hle172⟩ := own_form ho166
            have ho173 := own_base (b' := 0) ho166 (fun _ _ => Nat.zero_le _)
            have hS174 := hS158.trans hF163 (fun x_ hx_ => .inl (by simp [hx_]))
            refine ⟨_, rfl, hS174, ?_⟩
            have hf175 := whAt_fr hf160 hF163 (hC157.disj 1 0 rfl rfl (by decide))
            have hcl_ := canL_len2 m5 (dueK m5 e67.at_)
            refine WD.call 7 (by kernel_rfl) rfl rfl rfl rfl rfl (by kernel_rfl) (Due_to F6 p35 (Int.toNat (1 + (nb : Int))) m5 h5 e67.at_ w168 (dueK m5 e67.at_) (canL m5 (dueK m5 e67.at_)) (dueH h5 e67.at_) (rfl) (rfl) (rfl) hf175 hhd.1.1 hhd.1.2 (by omega) hhd.2 (by omega)) ?_
            rintro _ w184 ⟨v177, F178, rfl, hF179, hT180, hsub181, ho182, hd183⟩
            have hC185 := hC169.callFN 1 rfl hF179 hsub181 (whAt_lt hT180) (own_ge ho182) (own_lt ho182) (fun x_ hx_ h_ => hd183 x_ h_ hx_)
            obtain ⟨A186, c187, rfl, hle188⟩ := own_form ho182
            have ho189 := own_base (b' := 0) ho182 (fun _ _ => Nat.zero_le _)
            have hS190 := hS174.trans hF179 (fun x_ hx_ => .inl (by simp [hx_]))
            refine ⟨_, rfl, hS190, ?_⟩
            have hf191 := whAt_fr hT164 hF179 (hC169.disj 0 1 rfl rfl (by decide))
            have ho192 := own_fr ho173 hF179 (hC169.disj 2 1 rfl rfl (by decide))
            refine WD.call 8 (by kernel_rfl) rfl rfl rfl rfl rfl (by kernel_rfl) (Ints_n A170 A186 ((dueK m5 e67.at_).length) c171 ((dueK m5 e67.at_).length) c187 (dueK m5 e67.at_) (dueK m5 e67.at_) w184 (own_rd ho192 (Go.Tw.encI_len _) (by decide)) (own_count (Go.Tw.encI_len _) (by decide) ho192) (by rw [own_count (Go.Tw.encI_len _) (by decide) ho192]; exact own_max ho192) (own_rd ho189 (Go.Tw.encI_len _) (by decide)) (own_count (Go.Tw.encI_len _) (by decide) ho189) (by rw [own_count (Go.Tw.encI_len _) (by decide) ho189]; exact own_max ho189)) ?_
            rintro _ w195 ⟨rfl, hF194⟩
            have hS197 := hS190.trans hF194 (by simp)
            refine ⟨_, rfl, hS197, ?_⟩
            have hC196 := hC185.call hF194
            have hf198 := whAt_fr hf191 hF194 (by simp)
            have hf199 := whAt_fr hT180 hF194 (by simp)
            have ho200 := own_fr ho192 hF194 (by simp)
            have ho201 := own_fr ho189 hF194 (by simp)
            refine WD.pure (NoPanic.then (NoPanic.block (NoPanic.block (NoPanic.then (NoPanic.then (NoPanic.block (NoPanic.then hN))))))) 9 68 (.bool (!(decide ((dueK m5 e67.at_) = (dueK m5 e67.at_))))) (by kernel_rfl) (fun _ => by kernel_rfl) hS197 ?_
            refine WD.done (by kernel_rfl) ?_
            refine QX.then_normal (hK154 _ _ ?_)
            refine WC.know 68 (.bool (!(decide ((dueK m5 e67.at_) = (dueK m5 e67.at_))))) (.bool false) rfl (congrArg Value.bool (by simp)) ?_
            refine WC.cond_false rfl ?_
            refine WC.skip ?_
            refine QX.block_normal ?_
            refine QX.block_normal ?_
            refine QX.then_normal (hK64 _ _ ?_)
            refine WC.region ?_
            refine WL.runs 1 [(97, .int .i64 (IntKind.i64.wrap ((i : Int) + 1)))] (fun _ => by kernel_rfl) ?_
            refine WL.recast (show (.int .i64 (IntKind.i64.wrap ((i : Int) + 1)) : Value) = .int .i64 ((i : Int) + 1) from by rw [wrap_in_i64 ((i : Int) + 1) (by omega) (by omega)]) ?_
            refine WL.runs 1 [(53, .int .i64 ((i : Int) + 1))] (fun _ => by kernel_rfl) ?_
            refine WL.done rfl ?_
            refine QX.then_normal ?_
            have hC202 := hC196.pick [] [0, 1] rfl rfl
            refine fun a_ ha_ => hK53 _ _ _ ?_ ⟨i + 1, F162, F178, (canL m5 (dueK m5 e67.at_)), (dueH h5 e67.at_), rfl, rfl, hC202, hf198, hf199, by omega, hhd.due hok5_.2.1, by have q_ := canL_len2 m5 (dueK m5 e67.at_); rw [totW_take he68]; omega⟩ a_ (ha_.weaken (sub_of ⟨rfl, rfl, rfl, rfl, rfl, rfl, rfl, rfl, trivial⟩))
            omega
      · skip
        obtain ⟨hg0_, hg1_⟩ := hb73
        refine WL.newM hC57 (fun b => .pointer (some ⟨b, 0, none⟩)) (.cells #[.int .i64 0, .int .i64 0, .slice none 0 0] 36) 12 (fun _ => by kernel_rfl) (fun g203 w204 hb207 hF205 hC206 => ?_)
        have hf208 := whAt_fr hx5 hF205 (by simp)
        have hf209 := whAt_fr hy5 hF205 (by simp)
        refine WL.storeM (c' := #[.int .i64 e67.kind, .int .i64 e67.at_, .slice e67.A e67.n e67.c]) hC206 0 36 g203 0 (.agg #[.int .i64 e67.kind, .int .i64 e67.at_, .slice e67.A e67.n e67.c]) (by kernel_rfl) rfl (by kernel_rfl) (fun w210 hF212 hC213 => ?_)
        have hf214 := whAt_fr hf208 hF212 (hC206.apartM 0 0 rfl rfl)
        have hf215 := whAt_fr hf209 hF212 (hC206.apartM 1 0 rfl rfl)
        refine WL.done rfl ?_
        refine QX.then_normal (hK66 _ _ ?_)
        refine WC.seq (fun K216 hK217 => ?_)
        refine WC.region ?_
        refine WL.runs 1 [(57, .pointer (some ⟨g203, 0, none⟩))] (fun _ => by kernel_rfl) ?_
        refine WL.load 3 (.pointer (some ⟨g203, 0, none⟩)) (.int .i64 e67.kind) 58 (by kernel_rfl) (run_ld (hC213.get 0 rfl) rfl) ?_
        refine WL.done rfl ?_
        refine QX.then_normal (hK217 _ _ ?_)
        refine WC.block ?_
        refine WC.seq (fun K218 hK219 => ?_)
        refine WC.region ?_
        refine WL.runs 2 [(69, .bool (e67.kind == 0)), (70, .bool (e67.kind == 0))] (fun _ => by kernel_rfl) ?_
        refine WL.done rfl ?_
        refine QX.then_normal (hK219 _ _ ?_)
        refine WC.test_at 69 (e67.kind == 0) rfl (fun t220b => ?_) (fun t220b => ?_)
        · -- e67.kind = 0: true
          have t220 : e67.kind = 0 := by simpa using t220b
          refine WC.cond_true rfl ?_
          refine WC.seq (fun K221 hK222 => ?_)
          refine WC.drawC hC213 (F5 ++ F6) (by kernel_rfl) (fun w223 hF224 hC225 hS226 => ?_)
          have hf227 := whAt_fr hf214 hF224 (by simp)
          have hf228 := whAt_fr hf215 hF224 (by simp)
          refine WD.pure (NoPanic.then (NoPanic.block (NoPanic.block (NoPanic.then (NoPanic.then (NoPanic.block (NoPanic.then hN))))))) 0 71 (.pointer (some ⟨p25, 0, none⟩)) (by kernel_rfl) (fun _ => by kernel_rfl) hS226 ?_
          refine WD.pure (NoPanic.then (NoPanic.block (NoPanic.block (NoPanic.then (NoPanic.then (NoPanic.block (NoPanic.then hN))))))) 1 72 (.pointer (some ⟨g203, 1, none⟩)) (by kernel_rfl) (fun _ => by kernel_rfl) hS226 ?_
          refine WD.pure (NoPanic.then (NoPanic.block (NoPanic.block (NoPanic.then (NoPanic.then (NoPanic.block (NoPanic.then hN))))))) 3 74 (.pointer (some ⟨g203, 2, none⟩)) (by kernel_rfl) (fun _ => by kernel_rfl) hS226 ?_
          refine WD.pure (NoPanic.then (NoPanic.block (NoPanic.block (NoPanic.then (NoPanic.then (NoPanic.block (NoPanic.then hN))))))) 7 78 (.pointer (some ⟨p35, 0, none⟩)) (by kernel_rfl) (fun _ => by kernel_rfl) hS226 ?_
          refine WD.pure (NoPanic.then (NoPanic.block (NoPanic.block (NoPanic.then (NoPanic.then (NoPanic.block (NoPanic.then hN))))))) 8 79 (.pointer (some ⟨g203, 1, none⟩)) (by kernel_rfl) (fun _ => by kernel_rfl) hS226 ?_
          refine WD.pure (NoPanic.then (NoPanic.block (NoPanic.block (NoPanic.then (NoPanic.then (NoPanic.block (NoPanic.then hN))))))) 10 81 (.pointer (some ⟨g203, 2, none⟩)) (by kernel_rfl) (fun _ => by kernel_rfl) hS226 ?_
          refine WD.load (NoPanic.then (NoPanic.block (NoPanic.block (NoPanic.then (NoPanic.then (NoPanic.block (NoPanic.then hN))))))) 2 3 (.pointer (some ⟨g203, 1, none⟩)) (.int .i64 e67.at_) 73 (by kernel_rfl) (by kernel_rfl) (fun _ hS_ => run_ld (Fr.has hS_ (hC225.get 0 rfl) (fun h_ => (List.mem_append.1 h_).elim (hC225.notin 0 0 rfl rfl) (hC225.notin 1 0 rfl rfl))) rfl) hS226 ?_
          refine WD.load (NoPanic.then (NoPanic.block (NoPanic.block (NoPanic.then (NoPanic.then (NoPanic.block (NoPanic.then hN))))))) 4 22 (.pointer (some ⟨g203, 2, none⟩)) (.slice e67.A e67.n e67.c) 75 (by kernel_rfl) (by kernel_rfl) (fun _ hS_ => run_ld (Fr.has hS_ (hC225.get 0 rfl) (fun h_ => (List.mem_append.1 h_).elim (hC225.notin 0 0 rfl rfl) (hC225.notin 1 0 rfl rfl))) rfl) hS226 ?_
          refine WD.load (NoPanic.then (NoPanic.block (NoPanic.block (NoPanic.then (NoPanic.then (NoPanic.block (NoPanic.then hN))))))) 9 3 (.pointer (some ⟨g203, 1, none⟩)) (.int .i64 e67.at_) 80 (by kernel_rfl) (by kernel_rfl) (fun _ hS_ => run_ld (Fr.has hS_ (hC225.get 0 rfl) (fun h_ => (List.mem_append.1 h_).elim (hC225.notin 0 0 rfl rfl) (hC225.notin 1 0 rfl rfl))) rfl) hS226 ?_
          refine WD.load (NoPanic.then (NoPanic.block (NoPanic.block (NoPanic.then (NoPanic.then (NoPanic.block (NoPanic.then hN))))))) 11 22 (.pointer (some ⟨g203, 2, none⟩)) (.slice e67.A e67.n e67.c) 82 (by kernel_rfl) (by kernel_rfl) (fun _ hS_ => run_ld (Fr.has hS_ (hC225.get 0 rfl) (fun h_ => (List.mem_append.1 h_).elim (hC225.notin 0 0 rfl rfl) (hC225.notin 1 0 rfl rfl))) rfl) hS226 ?_
          refine WD.call 5 (by kernel_rfl) rfl rfl rfl rfl rfl (by kernel_rfl) (Set_to F5 p25 (Int.toNat (1 + (na : Int))) m5 h5 e67.at_ e67.A e67.n e67.c e67.ks w223 (setL m5 e67.at_ e67.ks) (setH h5 e67.at_ e67.ks) (rfl) (rfl) hf227 (by omega) (by omega) (by omega) (Rd.fr hop_e67.row hC225.fr) hop_e67.len (by omega) (fun b_ off_ e_ n_ hx_ => absurd (rd_lt hop_e67.row (fun _ => by simp [Go.Tw.encI_len]) e_ n_) (Nat.not_lt.2 ((hC225.ownF _ (List.mem_of_getElem? (show _ = some F5 from (rfl : ([F5, F6] : List (List Nat))[0]? = _))) b_ hx_).resolve_left (fun h_ => nomatch h_))))) ?_
          rintro _ w230 ⟨F233, rfl, hF229, hT232, hsub234⟩
          have hT232' : whAt w230 F233 p25 (Int.toNat (1 + (na : Int))) (setL m5 e67.at_ e67.ks) (setH h5 e67.at_ e67.ks) := hT232
          have hC231 := hC225.callF 0 rfl hF229 hsub234 (whAt_lt hT232')
          have hS235 := hS226.trans hF229 (fun x_ hx_ => .inl (by simp [hx_]))
          refine ⟨_, rfl, hS235, ?_⟩
          have hf236 := whAt_fr hf228 hF229 (hC225.disj 1 0 rfl rfl (by decide))
          refine WD.call 6 (by kernel_rfl) rfl rfl rfl rfl rfl (by kernel_rfl) (Num_nil w230) ?_
          rintro _ w238 ⟨rfl, hF237⟩
          have hS240 := hS235.trans hF237 (by simp)
          refine ⟨_, rfl, hS240, ?_⟩
          have hC239 := hC231.call hF237
          have hf241 := whAt_fr hT232' hF237 (by simp)
          have hf242 := whAt_fr hf236 hF237 (by simp)
          refine WD.call 12 (by kernel_rfl) rfl rfl rfl rfl rfl (by kernel_rfl) (Set_to F6 p35 (Int.toNat (1 + (nb : Int))) m5 h5 e67.at_ e67.A e67.n e67.c e67.ks w238 (setL m5 e67.at_ e67.ks) (setH h5 e67.at_ e67.ks) (rfl) (rfl) hf242 (by omega) (by omega) (by omega) (Rd.fr hop_e67.row hC239.fr) hop_e67.len (by omega) (fun b_ off_ e_ n_ hx_ => absurd (rd_lt hop_e67.row (fun _ => by simp [Go.Tw.encI_len]) e_ n_) (Nat.not_lt.2 ((hC239.ownF _ (List.mem_of_getElem? (show _ = some F6 from (rfl : ([F233, F6] : List (List Nat))[1]? = _))) b_ hx_).resolve_left (fun h_ => nomatch h_))))) ?_
          rintro _ w244 ⟨F247, rfl, hF243, hT246, hsub248⟩
          have hT246' : whAt w244 F247 p35 (Int.toNat (1 + (nb : Int))) (setL m5 e67.at_ e67.ks) (setH h5 e67.at_ e67.ks) := hT246
          have hC245 := hC239.callF 1 rfl hF243 hsub248 (whAt_lt hT246')
          have hS249 := hS240.trans hF243 (fun x_ hx_ => .inl (by simp [hx_]))
          refine ⟨_, rfl, hS249, ?_⟩
          have hf250 := whAt_fr hf241 hF243 (hC239.disj 0 1 rfl rfl (by decide))
          refine WD.call 13 (by kernel_rfl) rfl rfl rfl rfl rfl (by kernel_rfl) (Num_nil w244) ?_
          rintro _ w252 ⟨rfl, hF251⟩
          have hS254 := hS249.trans hF251 (by simp)
          refine ⟨_, rfl, hS254, ?_⟩
          have hC253 := hC245.call hF251
          have hf255 := whAt_fr hf250 hF251 (by simp)
          have hf256 := whAt_fr hT246' hF251 (by simp)
          refine WD.pure (NoPanic.then (NoPanic.block (NoPanic.block (NoPanic.then (NoPanic.then (NoPanic.block (NoPanic.then hN))))))) 14 85 (.bool false) (by kernel_rfl) (fun _ => by kernel_rfl) hS254 ?_
          refine WD.done (by kernel_rfl) ?_
          refine QX.then_normal (hK222 _ _ ?_)
          refine WC.cond_false rfl ?_
          refine WC.skip ?_
          refine QX.block_normal ?_
          refine QX.block_normal ?_
          refine QX.then_normal (hK64 _ _ ?_)
          refine WC.region ?_
          refine WL.runs 1 [(97, .int .i64 (IntKind.i64.wrap ((i : Int) + 1)))] (fun _ => by kernel_rfl) ?_
          refine WL.recast (show (.int .i64 (IntKind.i64.wrap ((i : Int) + 1)) : Value) = .int .i64 ((i : Int) + 1) from by rw [wrap_in_i64 ((i : Int) + 1) (by omega) (by omega)]) ?_
          refine WL.runs 1 [(53, .int .i64 ((i : Int) + 1))] (fun _ => by kernel_rfl) ?_
          refine WL.done rfl ?_
          refine QX.then_normal ?_
          have hC257 := hC253.pick [] [0, 1] rfl rfl
          refine fun a_ ha_ => hK53 _ _ _ ?_ ⟨i + 1, F233, F247, setL m5 e67.at_ e67.ks, setH h5 e67.at_ e67.ks, rfl, rfl, hC257, hf255, hf256, by omega, hhd.set hg0_, by have q_ := setL_len (m := m5) (at_ := e67.at_) e67.ks; rw [totW_take he68]; omega⟩ a_ (ha_.weaken (sub_of ⟨rfl, rfl, rfl, rfl, rfl, rfl, rfl, rfl, trivial⟩))
          omega
        · -- e67.kind = 0: false
          have t220 : ¬ (e67.kind = 0) := by simpa using t220b
          refine WC.cond_false rfl ?_
          refine WC.seq (fun K258 hK259 => ?_)
          refine WC.region ?_
          refine WL.runs 2 [(86, .bool (e67.kind == 1)), (87, .bool (e67.kind == 1))] (fun _ => by kernel_rfl) ?_
          refine WL.done rfl ?_
          refine QX.then_normal (hK259 _ _ ?_)
          refine WC.test_at 86 (e67.kind == 1) rfl (fun t260b => ?_) (fun t260b => ?_)
          · -- e67.kind = 1: true
            have t260 : e67.kind = 1 := by simpa using t260b
            refine WC.cond_true rfl ?_
            refine WC.seq (fun K261 hK262 => ?_)
            refine WC.drawC hC213 (F5 ++ F6) (by kernel_rfl) (fun w263 hF264 hC265 hS266 => ?_)
            have hf267 := whAt_fr hf214 hF264 (by simp)
            have hf268 := whAt_fr hf215 hF264 (by simp)
            refine WD.pure (NoPanic.then (NoPanic.block (NoPanic.block (NoPanic.then (NoPanic.then (NoPanic.block (NoPanic.then hN))))))) 0 88 (.pointer (some ⟨p25, 0, none⟩)) (by kernel_rfl) (fun _ => by kernel_rfl) hS266 ?_
            refine WD.pure (NoPanic.then (NoPanic.block (NoPanic.block (NoPanic.then (NoPanic.then (NoPanic.block (NoPanic.then hN))))))) 1 89 (.pointer (some ⟨g203, 2, none⟩)) (by kernel_rfl) (fun _ => by kernel_rfl) hS266 ?_
            refine WD.pure (NoPanic.then (NoPanic.block (NoPanic.block (NoPanic.then (NoPanic.then (NoPanic.block (NoPanic.then hN))))))) 4 92 (.pointer (some ⟨p35, 0, none⟩)) (by kernel_rfl) (fun _ => by kernel_rfl) hS266 ?_
            refine WD.pure (NoPanic.then (NoPanic.block (NoPanic.block (NoPanic.then (NoPanic.then (NoPanic.block (NoPanic.then hN))))))) 5 93 (.pointer (some ⟨g203, 2, none⟩)) (by kernel_rfl) (fun _ => by kernel_rfl) hS266 ?_
            refine WD.load (NoPanic.then (NoPanic.block (NoPanic.block (NoPanic.then (NoPanic.then (NoPanic.block (NoPanic.then hN))))))) 2 22 (.pointer (some ⟨g203, 2, none⟩)) (.slice e67.A e67.n e67.c) 90 (by kernel_rfl) (by kernel_rfl) (fun _ hS_ => run_ld (Fr.has hS_ (hC265.get 0 rfl) (fun h_ => (List.mem_append.1 h_).elim (hC265.notin 0 0 rfl rfl) (hC265.notin 1 0 rfl rfl))) rfl) hS266 ?_
            refine WD.load (NoPanic.then (NoPanic.block (NoPanic.block (NoPanic.then (NoPanic.then (NoPanic.block (NoPanic.then hN))))))) 6 22 (.pointer (some ⟨g203, 2, none⟩)) (.slice e67.A e67.n e67.c) 94 (by kernel_rfl) (by kernel_rfl) (fun _ hS_ => run_ld (Fr.has hS_ (hC265.get 0 rfl) (fun h_ => (List.mem_append.1 h_).elim (hC265.notin 0 0 rfl rfl) (hC265.notin 1 0 rfl rfl))) rfl) hS266 ?_
            refine WD.call 3 (by kernel_rfl) rfl rfl rfl rfl rfl (by kernel_rfl) (Cancel_n F5 p25 (Int.toNat (1 + (na : Int))) m5 h5 e67.A e67.n e67.c e67.ks w263 hf267 (Rd.fr hop_e67.row hC265.fr) hop_e67.len (by omega) (fun b_ off_ e_ n_ hx_ => absurd (rd_lt hop_e67.row (fun _ => by simp [Go.Tw.encI_len]) e_ n_) (Nat.not_lt.2 ((hC265.ownF _ (List.mem_of_getElem? (show _ = some F5 from (rfl : ([F5, F6] : List (List Nat))[0]? = _))) b_ hx_).resolve_left (fun h_ => nomatch h_))))) ?_
            rintro _ w270 ⟨F273, rfl, hF269, hT272, hsub274⟩
            have hT272' : whAt w270 F273 p25 (Int.toNat (1 + (na : Int))) (canL m5 e67.ks) h5 := hT272
            have hC271 := hC265.callF 0 rfl hF269 hsub274 (whAt_lt hT272')
            have hS275 := hS266.trans hF269 (fun x_ hx_ => .inl (by simp [hx_]))
            refine ⟨_, rfl, hS275, ?_⟩
            have hf276 := whAt_fr hf268 hF269 (hC265.disj 1 0 rfl rfl (by decide))
            refine WD.call 7 (by kernel_rfl) rfl rfl rfl rfl rfl (by kernel_rfl) (Cancel_n F6 p35 (Int.toNat (1 + (nb : Int))) m5 h5 e67.A e67.n e67.c e67.ks w270 hf276 (Rd.fr hop_e67.row hC271.fr) hop_e67.len (by omega) (fun b_ off_ e_ n_ hx_ => absurd (rd_lt hop_e67.row (fun _ => by simp [Go.Tw.encI_len]) e_ n_) (Nat.not_lt.2 ((hC271.ownF _ (List.mem_of_getElem? (show _ = some F6 from (rfl : ([F273, F6] : List (List Nat))[1]? = _))) b_ hx_).resolve_left (fun h_ => nomatch h_))))) ?_
            rintro _ w278 ⟨F281, rfl, hF277, hT280, hsub282⟩
            have hT280' : whAt w278 F281 p35 (Int.toNat (1 + (nb : Int))) (canL m5 e67.ks) h5 := hT280
            have hC279 := hC271.callF 1 rfl hF277 hsub282 (whAt_lt hT280')
            have hS283 := hS275.trans hF277 (fun x_ hx_ => .inl (by simp [hx_]))
            refine ⟨_, rfl, hS283, ?_⟩
            have hf284 := whAt_fr hT272' hF277 (hC271.disj 0 1 rfl rfl (by decide))
            refine WD.pure (NoPanic.then (NoPanic.block (NoPanic.block (NoPanic.then (NoPanic.then (NoPanic.block (NoPanic.then hN))))))) 8 96 (.bool ((canN m5 e67.ks : Int) != (canN m5 e67.ks : Int))) (by kernel_rfl) (fun _ => by kernel_rfl) hS283 ?_
            refine WD.done (by kernel_rfl) ?_
            refine QX.then_normal (hK262 _ _ ?_)
            refine WC.know 96 (.bool ((canN m5 e67.ks : Int) != (canN m5 e67.ks : Int))) (.bool false) rfl (congrArg Value.bool (by simp)) ?_
            refine WC.cond_false rfl ?_
            refine WC.skip ?_
            refine QX.block_normal ?_
            refine QX.block_normal ?_
            refine QX.then_normal (hK64 _ _ ?_)
            refine WC.region ?_
            refine WL.runs 1 [(97, .int .i64 (IntKind.i64.wrap ((i : Int) + 1)))] (fun _ => by kernel_rfl) ?_
            refine WL.recast (show (.int .i64 (IntKind.i64.wrap ((i : Int) + 1)) : Value) = .int .i64 ((i : Int) + 1) from by rw [wrap_in_i64 ((i : Int) + 1) (by omega) (by omega)]) ?_
            refine WL.runs 1 [(53, .int .i64 ((i : Int) + 1))] (fun _ => by kernel_rfl) ?_
            refine WL.done rfl ?_
            refine QX.then_normal ?_
            have hC285 := hC279.pick [] [0, 1] rfl rfl
            refine fun a_ ha_ => hK53 _ _ _ ?_ ⟨i + 1, F273, F281, canL m5 e67.ks, h5, rfl, rfl, hC285, hf284, hT280', by omega, hhd.can hok5_.2.1, by have q_ := canL_len2 m5 e67.ks; rw [totW_take he68]; omega⟩ a_ (ha_.weaken (sub_of ⟨rfl, rfl, rfl, rfl, rfl, rfl, rfl, rfl, trivial⟩))
            omega
          · -- e67.kind = 1: false
            have t260 : ¬ (e67.kind = 1) := by simpa using t260b
            refine WC.cond_false rfl ?_
            refine WC.seq (fun K286 hK287 => ?_)
            refine WC.drawC hC213 (F5 ++ F6) (by kernel_rfl) (fun w288 hF289 hC290 hS291 => ?_)
            have hf292 := whAt_fr hf214 hF289 (by simp)
            have hf293 := whAt_fr hf215 hF289 (by simp)
            refine WD.pure (NoPanic.then (NoPanic.block (NoPanic.block (NoPanic.then (NoPanic.then (NoPanic.block (NoPanic.then hN))))))) 0 59 (.pointer (some ⟨p25, 0, none⟩)) (by kernel_rfl) (fun _ => by kernel_rfl) hS291 ?_
            refine WD.pure (NoPanic.then (NoPanic.block (NoPanic.block (NoPanic.then (NoPanic.then (NoPanic.block (NoPanic.then hN))))))) 1 60 (.pointer (some ⟨g203, 1, none⟩)) (by kernel_rfl) (fun _ => by kernel_rfl) hS291 ?_
            refine WD.pure (NoPanic.then (NoPanic.block (NoPanic.block (NoPanic.then (NoPanic.then (NoPanic.block (NoPanic.then hN))))))) 4 63 (.pointer (some ⟨p35, 0, none⟩)) (by kernel_rfl) (fun _ => by kernel_rfl) hS291 ?_
            refine WD.pure (NoPanic.then (NoPanic.block (NoPanic.block (NoPanic.then (NoPanic.then (NoPanic.block (NoPanic.then hN))))))) 5 64 (.pointer (some ⟨g203, 1, none⟩)) (by kernel_rfl) (fun _ => by kernel_rfl) hS291 ?_
            refine WD.load (NoPanic.then (NoPanic.block (NoPanic.block (NoPanic.then (NoPanic.then (NoPanic.block (NoPanic.then hN))))))) 2 3 (.pointer (some ⟨g203, 1, none⟩)) (.int .i64 e67.at_) 61 (by kernel_rfl) (by kernel_rfl) (fun _ hS_ => run_ld (Fr.has hS_ (hC290.get 0 rfl) (fun h_ => (List.mem_append.1 h_).elim (hC290.notin 0 0 rfl rfl) (hC290.notin 1 0 rfl rfl))) rfl) hS291 ?_
            refine WD.load (NoPanic.then (NoPanic.block (NoPanic.block (NoPanic.then (NoPanic.then (NoPanic.block (NoPanic.then hN))))))) 6 3 (.pointer (some ⟨g203, 1, none⟩)) (.int .i64 e67.at_) 65 (by kernel_rfl) (by kernel_rfl) (fun _ hS_ => run_ld (Fr.has hS_ (hC290.get 0 rfl) (fun h_ => (List.mem_append.1 h_).elim (hC290.notin 0 0 rfl rfl) (hC290.notin 1 0 rfl rfl))) rfl) hS291 ?_
            have hcl_ := canL_len2 m5 (dueK m5 e67.at_)
            refine WD.call 3 (by kernel_rfl) rfl rfl rfl rfl rfl (by kernel_rfl) (Due_to F5 p25 (Int.toNat (1 + (na : Int))) m5 h5 e67.at_ w288 (dueK m5 e67.at_) (canL m5 (dueK m5 e67.at_)) (dueH h5 e67.at_) (rfl) (rfl) (rfl) hf292 hhd.1.1 hhd.1.2 (by omega) hhd.2 (by omega)) ?_
            rintro _ w301 ⟨v294, F295, rfl, hF296, hT297, hsub298, ho299, hd300⟩
            have hC302 := hC290.callFN 0 rfl hF296 hsub298 (whAt_lt hT297) (own_ge ho299) (own_lt ho299) (fun x_ hx_ h_ => hd300 x_ h_ hx_)
            obtain ⟨A303, c304, rfl, hle305⟩ := own_form ho299
            have ho306 := own_base (b' := 0) ho299 (fun _ _ => Nat.zero_le _)
            have hS307 := hS291.trans hF296 (fun x_ hx_ => .inl (by simp [hx_]))
            refine ⟨_, rfl, hS307, ?_⟩
            have hf308 := whAt_fr hf293 hF296 (hC290.disj 1 0 rfl rfl (by decide))
            have hcl_ := canL_len2 m5 (dueK m5 e67.at_)
            refine WD.call 7 (by kernel_rfl) rfl rfl rfl rfl rfl (by kernel_rfl) (Due_to F6 p35 (Int.toNat (1 + (nb : Int))) m5 h5 e67.at_ w301 (dueK m5 e67.at_) (canL m5 (dueK m5 e67.at_)) (dueH h5 e67.at_) (rfl) (rfl) (rfl) hf308 hhd.1.1 hhd.1.2 (by omega) hhd.2 (by omega)) ?_
            rintro _ w317 ⟨v310, F311, rfl, hF312, hT313, hsub314, ho315, hd316⟩
            have hC318 := hC302.callFN 1 rfl hF312 hsub314 (whAt_lt hT313) (own_ge ho315) (own_lt ho315) (fun x_ hx_ h_ => hd316 x_ h_ hx_)
            obtain ⟨A319, c320, rfl, hle321⟩ := own_form ho315
            have ho322 := own_base (b' := 0) ho315 (fun _ _ => Nat.zero_le _)
            have hS323 := hS307.trans hF312 (fun x_ hx_ => .inl (by simp [hx_]))
            refine ⟨_, rfl, hS323, ?_⟩
            have hf324 := whAt_fr hT297 hF312 (hC302.disj 0 1 rfl rfl (by decide))
            have ho325 := own_fr ho306 hF312 (hC302.disj 2 1 rfl rfl (by decide))
            refine WD.call 8 (by kernel_rfl) rfl rfl rfl rfl rfl (by kernel_rfl) (Ints_n A303 A319 ((dueK m5 e67.at_).length) c304 ((dueK m5 e67.at_).length) c320 (dueK m5 e67.at_) (dueK m5 e67.at_) w317 (own_rd ho325 (Go.Tw.encI_len _) (by decide)) (own_count (Go.Tw.encI_len _) (by decide) ho325) (by rw [own_count (Go.Tw.encI_len _) (by decide) ho325]; exact own_max ho325) (own_rd ho322 (Go.Tw.encI_len _) (by decide)) (own_count (Go.Tw.encI_len _) (by decide) ho322) (by rw [own_count (Go.Tw.encI_len _) (by decide) ho322]; exact own_max ho322)) ?_
            rintro _ w328 ⟨rfl, hF327⟩
            have hS330 := hS323.trans hF327 (by simp)
            refine ⟨_, rfl, hS330, ?_⟩
            have hC329 := hC318.call hF327
            have hf331 := whAt_fr hf324 hF327 (by simp)
            have hf332 := whAt_fr hT313 hF327 (by simp)
            have ho333 := own_fr ho325 hF327 (by simp)
            have ho334 := own_fr ho322 hF327 (by simp)
            refine WD.pure (NoPanic.then (NoPanic.block (NoPanic.block (NoPanic.then (NoPanic.then (NoPanic.block (NoPanic.then hN))))))) 9 68 (.bool (!(decide ((dueK m5 e67.at_) = (dueK m5 e67.at_))))) (by kernel_rfl) (fun _ => by kernel_rfl) hS330 ?_
            refine WD.done (by kernel_rfl) ?_
            refine QX.then_normal (hK287 _ _ ?_)
            refine WC.know 68 (.bool (!(decide ((dueK m5 e67.at_) = (dueK m5 e67.at_))))) (.bool false) rfl (congrArg Value.bool (by simp)) ?_
            refine WC.cond_false rfl ?_
            refine WC.skip ?_
            refine QX.block_normal ?_
            refine QX.block_normal ?_
            refine QX.then_normal (hK64 _ _ ?_)
            refine WC.region ?_
            refine WL.runs 1 [(97, .int .i64 (IntKind.i64.wrap ((i : Int) + 1)))] (fun _ => by kernel_rfl) ?_
            refine WL.recast (show (.int .i64 (IntKind.i64.wrap ((i : Int) + 1)) : Value) = .int .i64 ((i : Int) + 1) from by rw [wrap_in_i64 ((i : Int) + 1) (by omega) (by omega)]) ?_
            refine WL.runs 1 [(53, .int .i64 ((i : Int) + 1))] (fun _ => by kernel_rfl) ?_
            refine WL.done rfl ?_
            refine QX.then_normal ?_
            have hC335 := hC329.pick [] [0, 1] rfl rfl
            refine fun a_ ha_ => hK53 _ _ _ ?_ ⟨i + 1, F295, F311, (canL m5 (dueK m5 e67.at_)), (dueH h5 e67.at_), rfl, rfl, hC335, hf331, hf332, by omega, hhd.due hok5_.2.1, by have q_ := canL_len2 m5 (dueK m5 e67.at_); rw [totW_take he68]; omega⟩ a_ (ha_.weaken (sub_of ⟨rfl, rfl, rfl, rfl, rfl, rfl, rfl, rfl, trivial⟩))
            omega
    · -- (i : Int) < (ops.length : Int): false
      have t62 : (ops.length : Int) ≤ (i : Int) := by have q_ := of_decide_eq_false t62b; omega
      refine WC.cond_false rfl ?_
      refine WC.exit ?_
      refine QX.then_exit ?_
      refine QX.then_exit ?_
      refine QX.block_hit ?_
      refine QX.then_normal (hK49 _ _ ?_)
      refine WC.seq (fun K336 hK337 => ?_)
      refine WC.region ?_
      refine WL.runs 1 [(98, .pointer (some ⟨p25, 0, none⟩))] (fun _ => by kernel_rfl) ?_
      refine WL.call rfl rfl rfl rfl rfl (by kernel_rfl) (Len_ct F5 p25 (Int.toNat (1 + (na : Int))) m5 h5 w56 hx5) ?_
      rintro _ w339 ⟨rfl, hF338⟩
      refine ⟨_, rfl, ?_⟩
      have hC340 := hC57.call hF338
      have hf341 := whAt_fr hx5 hF338 (by simp)
      have hf342 := whAt_fr hy5 hF338 (by simp)
      refine WL.runs 1 [(100, .pointer (some ⟨p35, 0, none⟩))] (fun _ => by kernel_rfl) ?_
      refine WL.call rfl rfl rfl rfl rfl (by kernel_rfl) (Len_ct F6 p35 (Int.toNat (1 + (nb : Int))) m5 h5 w339 hf342) ?_
      rintro _ w344 ⟨rfl, hF343⟩
      refine ⟨_, rfl, ?_⟩
      have hC345 := hC340.call hF343
      have hf346 := whAt_fr hf341 hF343 (by simp)
      have hf347 := whAt_fr hf342 hF343 (by simp)
      refine WL.runs 2 [(103, .bool (((m5 : List (Int × Int)).length : Int) == ((m5 : List (Int × Int)).length : Int))), (102, .bool (((m5 : List (Int × Int)).length : Int) == ((m5 : List (Int × Int)).length : Int)))] (fun _ => by kernel_rfl) ?_
      refine WL.know 103 (.bool (((m5 : List (Int × Int)).length : Int) == ((m5 : List (Int × Int)).length : Int))) (.bool true) rfl (congrArg Value.bool (by simp)) ?_
      refine WL.runs 1 [(104, .pointer (some ⟨p25, 0, none⟩))] (fun _ => by kernel_rfl) ?_
      have hcl_ := canL_len2 m5 (dueK m5 4611686018427387904)
      refine WL.call rfl rfl rfl rfl rfl (by kernel_rfl) (Due_to F5 p25 (Int.toNat (1 + (na : Int))) m5 h5 4611686018427387904 w344 (dueK m5 4611686018427387904) (canL m5 (dueK m5 4611686018427387904)) (dueH h5 4611686018427387904) (rfl) (rfl) (rfl) hf346 hhd.1.1 hhd.1.2 (by omega) hhd.2 (by omega)) ?_
      rintro _ w355 ⟨v348, F349, rfl, hF350, hT351, hsub352, ho353, hd354⟩
      have hC356 := hC345.callFN 0 rfl hF350 hsub352 (whAt_lt hT351) (own_ge ho353) (own_lt ho353) (fun x_ hx_ h_ => hd354 x_ h_ hx_)
      obtain ⟨A357, c358, rfl, hle359⟩ := own_form ho353
      have ho360 := own_base (b' := 0) ho353 (fun _ _ => Nat.zero_le _)
      refine ⟨_, rfl, ?_⟩
      have hf361 := whAt_fr hf347 hF350 (hC345.disj 1 0 rfl rfl (by decide))
      refine WL.runs 1 [(106, .pointer (some ⟨p35, 0, none⟩))] (fun _ => by kernel_rfl) ?_
      have hcl_ := canL_len2 m5 (dueK m5 4611686018427387904)
      refine WL.call rfl rfl rfl rfl rfl (by kernel_rfl) (Due_to F6 p35 (Int.toNat (1 + (nb : Int))) m5 h5 4611686018427387904 w355 (dueK m5 4611686018427387904) (canL m5 (dueK m5 4611686018427387904)) (dueH h5 4611686018427387904) (rfl) (rfl) (rfl) hf361 hhd.1.1 hhd.1.2 (by omega) hhd.2 (by omega)) ?_
      rintro _ w370 ⟨v363, F364, rfl, hF365, hT366, hsub367, ho368, hd369⟩
      have hC371 := hC356.callFN 1 rfl hF365 hsub367 (whAt_lt hT366) (own_ge ho368) (own_lt ho368) (fun x_ hx_ h_ => hd369 x_ h_ hx_)
      obtain ⟨A372, c373, rfl, hle374⟩ := own_form ho368
      have ho375 := own_base (b' := 0) ho368 (fun _ _ => Nat.zero_le _)
      refine ⟨_, rfl, ?_⟩
      have hf376 := whAt_fr hT351 hF365 (hC356.disj 0 1 rfl rfl (by decide))
      have ho377 := own_fr ho360 hF365 (hC356.disj 2 1 rfl rfl (by decide))
      refine WL.call rfl rfl rfl rfl rfl (by kernel_rfl) (Ints_n A357 A372 ((dueK m5 4611686018427387904).length) c358 ((dueK m5 4611686018427387904).length) c373 (dueK m5 4611686018427387904) (dueK m5 4611686018427387904) w370 (own_rd ho377 (Go.Tw.encI_len _) (by decide)) (own_count (Go.Tw.encI_len _) (by decide) ho377) (by rw [own_count (Go.Tw.encI_len _) (by decide) ho377]; exact own_max ho377) (own_rd ho375 (Go.Tw.encI_len _) (by decide)) (own_count (Go.Tw.encI_len _) (by decide) ho375) (by rw [own_count (Go.Tw.encI_len _) (by decide) ho375]; exact own_max ho375)) ?_
      rintro _ w380 ⟨rfl, hF379⟩
      refine ⟨_, rfl, ?_⟩
      have hC381 := hC371.call hF379
      have hf382 := whAt_fr hf376 hF379 (by simp)
      have hf383 := whAt_fr hT366 hF379 (by simp)
      have ho384 := own_fr ho377 hF379 (by simp)
      have ho385 := own_fr ho375 hF379 (by simp)
      refine WL.runs 2 [(6, .bool (decide ((dueK m5 4611686018427387904) = (dueK m5 4611686018427387904)))), (109, .bool (decide ((dueK m5 4611686018427387904) = (dueK m5 4611686018427387904))))] (fun _ => by kernel_rfl) ?_
      refine WL.done rfl ?_
      refine QX.then_normal (hK337 _ _ ?_)
      refine WC.ret ?_
      refine (hret _ _ _ rfl ?_).1
      clear hN hret hret' hK337 hK61 hK59 hK51 hK49 hK47 hK45 hK34 hK24 hK15 hK13 hK11 hK6 hK4 hK2
      exact ⟨congrArg Ending.returned (congrArg Value.bool (by simp)), hC381.fr⟩

end Go.Proofs.Ytkafccgbagbncaa
