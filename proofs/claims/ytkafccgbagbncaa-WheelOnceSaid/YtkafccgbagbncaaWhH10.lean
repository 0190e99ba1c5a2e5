/- Contracts of functions of the program, each proved by a walk through its code; conditions stand in the statements. -/
import Derived.Test.YtkafccgbagbncaaWhG10
namespace Go.Proofs.Ytkafccgbagbncaa
set_option linter.unusedSimpArgs false
set_option linter.unusedVariables false
set_option linter.unusedSectionVars false
open Go Go.RowKit Go.Tw
set_option linter.unusedVariables false
set_option maxRecDepth 20000
/-! ### each key once -/
def validT (a : Int) : Prop := 0 ≤ a ∧ a ≤ 1099511627776
instance (a : Int) : Decidable (validT a) := inferInstanceAs (Decidable (_ ∧ _))
def wantL : List Int → Int → Int → Int
  | [], _, _ => 0
  | n :: r, i, a => if a ≤ n then i + 1 else wantL r (i + 1) a
theorem wantL_nn (ns : List Int) : ∀ (i a : Int), 0 ≤ i → 0 ≤ wantL ns i a := by
  induction ns with
  | nil => intro i a _; exact Int.le_refl _
  | cons n r ih => intro i a h; unfold wantL; split; omega; exact ih _ _ (by omega)
theorem wantL_snoc (ns : List Int) (n a : Int) : ∀ i : Int, 0 ≤ i → wantL (ns ++ [n]) i a = if wantL ns i a = 0 then (if a ≤ n then i + (ns.length : Int) + 1 else 0) else wantL ns i a := by
  induction ns with
  | nil => intro i _; simp [wantL]
  | cons x r ih =>
    intro i h
    simp only [List.cons_append, wantL]
    split
    · rw [if_neg (by omega)]
    · rw [ih (i + 1) (by omega)]
      simp only [List.length_cons]
      split
      · split
        · push_cast; omega
        · rfl
      · rfl
structure SetI (times : List Int) (i : Nat) (ds : List Int) (m : List (Int × Int)) : Prop where
  len : ds.length = times.length
  keys : (m.map (·.1)).Nodup
  sub : ∀ t ∈ m, ∃ k : Nat, k < i ∧ t.1 = (k : Int) ∧ times[k]? = some t.2 ∧ validT t.2
  val : ∀ (k : Nat) (a : Int), times[k]? = some a → ds[k]? = some (if k < i ∧ ¬ validT a then -1 else 0) ∧ (k < i → validT a → ((k : Int), a) ∈ m)
theorem SetI.start (times : List Int) : SetI times 0 (List.replicate times.length 0) [] :=
  ⟨List.length_replicate, by simp, by simp, fun k a h => by
    have hk := (List.getElem?_eq_some_iff.1 h).1
    refine ⟨?_, fun h => by omega⟩
    rw [List.getElem?_replicate, if_pos hk, if_neg (by omega)]⟩
theorem SetI.lt {times : List Int} {i : Nat} {ds : List Int} {m : List (Int × Int)} (h : SetI times i ds m) : ∀ t ∈ m, t.1 < (i : Int) := fun t ht => by
  obtain ⟨k, hk, he, _⟩ := h.sub t ht
  omega
theorem SetI.bad {times : List Int} {i : Nat} {ds : List Int} {m : List (Int × Int)} (h : SetI times i ds m) {a : Int} (ha : times[i]? = some a) (hv : ¬ validT a) : SetI times (i + 1) (ds.set i (-1)) m := by
  have hi := (List.getElem?_eq_some_iff.1 ha).1
  refine ⟨by rw [List.length_set]; exact h.len, h.keys, fun t ht => ?_, fun k b hb => ?_⟩
  · obtain ⟨k, hk, h1⟩ := h.sub t ht
    exact ⟨k, by omega, h1⟩
  · obtain ⟨h1, h2⟩ := h.val k b hb
    refine ⟨?_, fun hk hv2 => ?_⟩
    · rw [List.getElem?_set]
      by_cases e : i = k
      · subst e
        rw [if_pos rfl, if_pos (by rw [h.len]; exact hi)]
        rw [ha] at hb; cases hb
        rw [if_pos ⟨by omega, hv⟩]
      · rw [if_neg e, h1]
        congr 1
        by_cases hk : k < i
        · simp [hk, show k < i + 1 by omega]
        · simp [hk, show ¬ k < i + 1 by omega]
    · by_cases e : i = k
      · subst e; rw [ha] at hb; cases hb; exact absurd hv2 hv
      · exact h2 (by omega) hv2
theorem SetI.good {times : List Int} {i : Nat} {ds : List Int} {m : List (Int × Int)} (h : SetI times i ds m) {a : Int} (ha : times[i]? = some a) (hv : validT a) : SetI times (i + 1) ds (m ++ [((i : Int), a)]) := by
  refine ⟨h.len, ?_, fun t ht => ?_, fun k b hb => ?_⟩
  · rw [List.map_append, List.nodup_append]
    refine ⟨h.keys, by simp, fun x hx y hy => ?_⟩
    simp only [List.map_cons, List.map_nil, List.mem_singleton] at hy
    obtain ⟨t, ht, rfl⟩ := List.mem_map.1 hx
    have := h.lt t ht
    omega
  · rcases List.mem_append.1 ht with ht | ht
    · obtain ⟨k, hk, h1⟩ := h.sub t ht
      exact ⟨k, by omega, h1⟩
    · rw [List.mem_singleton] at ht; subst ht
      exact ⟨i, by omega, rfl, ha, hv⟩
  · obtain ⟨h1, h2⟩ := h.val k b hb
    refine ⟨?_, fun hk hv2 => ?_⟩
    · rw [h1]
      congr 1
      by_cases e : i = k
      · subst e; rw [ha] at hb; cases hb; simp [hv]
      · by_cases hk : k < i
        · simp [hk, show k < i + 1 by omega]
        · simp [hk, show ¬ k < i + 1 by omega]
    · by_cases e : i = k
      · subst e; rw [ha] at hb; cases hb; simp
      · exact List.mem_append_left _ (h2 (by omega) hv2)
structure OnceI (times nows : List Int) (r : Nat) (ds : List Int) (m : List (Int × Int)) : Prop where
  len : ds.length = times.length
  keys : (m.map (·.1)).Nodup
  sub : ∀ t ∈ m, ∃ k : Nat, t.1 = (k : Int) ∧ times[k]? = some t.2 ∧ ds[k]? = some 0
  val : ∀ (k : Nat) (a : Int), times[k]? = some a → (¬ validT a ∧ ds[k]? = some (-1)) ∨ (validT a ∧ ds[k]? = some (wantL (nows.take r) 0 a) ∧ (wantL (nows.take r) 0 a = 0 → ((k : Int), a) ∈ m))
theorem SetI.once {times nows : List Int} {ds : List Int} {m : List (Int × Int)} (h : SetI times times.length ds m) : OnceI times nows 0 ds m := by
  refine ⟨h.len, h.keys, fun t ht => ?_, fun k a ha => ?_⟩
  · obtain ⟨k, hk, h1, h2, h3⟩ := h.sub t ht
    exact ⟨k, h1, h2, by rw [(h.val k _ h2).1, if_neg (by simp [h3])]⟩
  · obtain ⟨h1, h2⟩ := h.val k a ha
    have hk := (List.getElem?_eq_some_iff.1 ha).1
    by_cases hv : validT a
    · right
      refine ⟨hv, by rw [h1, if_neg (by simp [hv])]; rfl, fun _ => h2 hk hv⟩
    · left
      exact ⟨hv, by rw [h1, if_pos ⟨hk, hv⟩]⟩
def dsK (ds : List Int) (K : List Int) (v : Int) : List Int := K.foldl (fun d k => d.set k.toNat v) ds
theorem dsK_len (K : List Int) (v : Int) : ∀ ds : List Int, (dsK ds K v).length = ds.length := by
  induction K with
  | nil => intro ds; rfl
  | cons k r ih => intro ds; exact (ih (ds.set k.toNat v)).trans (List.length_set ..)
theorem dsK_snoc (ds : List Int) {K : List Int} {v : Int} {j : Nat} {k : Int} (h : K[j]? = some k) : dsK ds (K.take (j + 1)) v = (dsK ds (K.take j) v).set k.toNat v := by
  obtain ⟨hj, rfl⟩ := List.getElem?_eq_some_iff.1 h
  unfold dsK
  rw [List.take_succ_eq_append_getElem hj, List.foldl_append]; rfl
theorem dsK_off {K : List Int} {v : Int} {q : Nat} (h : ∀ k ∈ K, k.toNat ≠ q) : ∀ ds : List Int, (dsK ds K v)[q]? = ds[q]? := by
  induction K with
  | nil => intro ds; rfl
  | cons k r ih =>
    intro ds
    have h1 := ih (fun x hx => h x (List.mem_cons_of_mem _ hx)) (ds.set k.toNat v)
    exact h1.trans (List.getElem?_set_ne (h k List.mem_cons_self))
theorem dsK_on {K : List Int} {v : Int} {q : Nat} (h : (q : Int) ∈ K) : ∀ ds : List Int, q < ds.length → (dsK ds K v)[q]? = some v := by
  induction K with
  | nil => cases h
  | cons k r ih =>
    intro ds hq
    by_cases hr : (q : Int) ∈ r
    · exact ih hr _ (by rw [List.length_set]; exact hq)
    · rcases List.mem_cons.1 h with e | e
      · by_cases ho : ∀ x ∈ r, x.toNat ≠ q
        · have := dsK_off (v := v) ho (ds.set k.toNat v)
          refine Eq.trans this ?_
          rw [← e]
          simp [hq]
        · have hex : ∃ x ∈ r, x.toNat = q := by
            apply Classical.byContradiction
            intro hn
            exact ho fun x hx e2 => hn ⟨x, hx, e2⟩
          obtain ⟨x, hx, hxq⟩ := hex
          clear h ih ho
          -- x lies in r too; the last one counts
          have gen : ∀ (r : List Int) (d : List Int), q < d.length → d[q]? = some v → (dsK d r v)[q]? = some v := by
            intro r
            induction r with
            | nil => intro d _ h; exact h
            | cons y s ih2 =>
              intro d hd h
              refine ih2 (d.set y.toNat v) (by rw [List.length_set]; exact hd) ?_
              rw [List.getElem?_set]
              split
              · rename_i e3; rw [if_pos (by omega)]
              · exact h
          refine gen r (ds.set k.toNat v) (by rw [List.length_set]; exact hq) ?_
          rw [← e]; simp [hq]
      · exact absurd e hr
theorem dueK_mem {m : List (Int × Int)} {now k : Int} : k ∈ dueK m now ↔ ∃ t ∈ m, t.1 = k ∧ t.2 ≤ now := by
  unfold dueK
  rw [List.mem_map]
  constructor
  · rintro ⟨t, ht, rfl⟩; obtain ⟨h1, h2⟩ := mem_dueL.1 ht; exact ⟨t, h1, rfl, h2⟩
  · rintro ⟨t, ht, rfl, h2⟩; exact ⟨t, mem_dueL.2 ⟨ht, h2⟩, rfl⟩
theorem dueK_nodup {m : List (Int × Int)} (h : (m.map (·.1)).Nodup) (now : Int) : (dueK m now).Nodup := by
  unfold dueK dueL
  refine List.Perm.nodup ((List.mergeSort_perm _ _).symm.map _) ?_
  exact List.Sublist.nodup (List.Sublist.map _ List.filter_sublist) h
theorem take_not_mem {K : List Int} (h : K.Nodup) {j : Nat} {k : Int} (hk : K[j]? = some k) : k ∉ K.take j := by
  intro hm
  obtain ⟨i, hi⟩ := List.mem_iff_getElem?.1 hm
  rw [List.getElem?_take] at hi
  split at hi
  · rename_i hij
    obtain ⟨h1, e1⟩ := List.getElem?_eq_some_iff.1 hi
    obtain ⟨h2, e2⟩ := List.getElem?_eq_some_iff.1 hk
    have := (List.getElem_inj (h₀ := h1) (h₁ := h2) h).1 (e1.trans e2.symm)
    omega
  · cases hi
theorem OnceI.at_ {times nows : List Int} {r : Nat} {ds : List Int} {m : List (Int × Int)} (h : OnceI times nows r ds m) {now v k : Int} {j : Nat} (hk : (dueK m now)[j]? = some k) : ∃ (q : Nat) (a : Int), k = (q : Int) ∧ times[q]? = some a ∧ a ≤ now ∧ (dsK ds ((dueK m now).take j) v)[q]? = some 0 := by
  obtain ⟨t, ht, he, hn⟩ := dueK_mem.1 (List.mem_of_getElem? hk)
  obtain ⟨q, h1, h2, h3⟩ := h.sub t ht
  refine ⟨q, t.2, by rw [← he, h1], h2, hn, ?_⟩
  rw [dsK_off ?_ ds, h3]
  intro x hx e
  have hx2 := List.mem_of_mem_take hx
  obtain ⟨u, hu, hu1, _⟩ := dueK_mem.1 hx2
  obtain ⟨q2, h4, _⟩ := h.sub u hu
  have : x = k := by omega
  subst this
  exact take_not_mem (dueK_nodup h.keys now) hk hx
theorem OnceI.step {times nows : List Int} {r : Nat} {ds : List Int} {m : List (Int × Int)} (h : OnceI times nows r ds m) {now : Int} (hn : nows[r]? = some now) : OnceI times nows (r + 1) (dsK ds (dueK m now) ((r : Int) + 1)) (canL m (dueK m now)) := by
  have hr := (List.getElem?_eq_some_iff.1 hn).1
  have htk : nows.take (r + 1) = nows.take r ++ [now] := by
    obtain ⟨h1, rfl⟩ := List.getElem?_eq_some_iff.1 hn
    exact List.take_succ_eq_append_getElem h1
  have off : ∀ (q : Nat) (a : Int), times[q]? = some a → (∀ t ∈ m, t.1 = (q : Int) → ¬ t.2 ≤ now) → (dsK ds (dueK m now) ((r : Int) + 1))[q]? = ds[q]? := by
    intro q a _ hq
    refine dsK_off (fun x hx e => ?_) ds
    obtain ⟨u, hu, hu1, hu2⟩ := dueK_mem.1 hx
    obtain ⟨q2, h4, _⟩ := h.sub u hu
    exact hq u hu (by omega) hu2
  refine ⟨by rw [dsK_len]; exact h.len, canL_keys h.keys _, fun t ht => ?_, fun k a ha => ?_⟩
  · obtain ⟨h1, h2⟩ := (mem_rest h.keys).1 ht
    obtain ⟨k, h3, h4, h5⟩ := h.sub t h1
    refine ⟨k, h3, h4, ?_⟩
    rw [off k t.2 h4 (fun u hu hk => by rw [key_uniq h.keys hu h1 (by omega)]; omega), h5]
  · rcases h.val k a ha with ⟨hv, hd⟩ | ⟨hv, hd, hm⟩
    · left
      refine ⟨hv, ?_⟩
      rw [off k a ha (fun u hu hk => ?_), hd]
      obtain ⟨q, h1, _, h2⟩ := h.sub u hu
      have : q = k := by omega
      subst this
      rw [hd] at h2; cases h2
    · right
      rw [htk, wantL_snoc _ _ _ _ (Int.le_refl 0)]
      have hlen : ((nows.take r).length : Int) = (r : Int) := by rw [List.length_take]; omega
      have hkl : k < ds.length := by rw [h.len]; exact (List.getElem?_eq_some_iff.1 ha).1
      by_cases h0 : wantL (nows.take r) 0 a = 0
      · have hmem := hm h0
        rw [if_pos h0]
        by_cases hle : a ≤ now
        · rw [if_pos hle, hlen]
          refine ⟨hv, ?_, fun e => by omega⟩
          rw [dsK_on (dueK_mem.2 ⟨_, hmem, rfl, hle⟩) ds hkl]
          congr 1; omega
        · rw [if_neg hle]
          refine ⟨hv, ?_, fun _ => (mem_rest h.keys).2 ⟨hmem, by omega⟩⟩
          rw [off k a ha (fun u hu hk => by rw [key_uniq h.keys hu hmem hk]; exact hle), hd, h0]
      · rw [if_neg h0]
        refine ⟨hv, ?_, fun e => absurd e h0⟩
        rw [off k a ha (fun u hu hk => ?_), hd]
        obtain ⟨q, h1, _, h2⟩ := h.sub u hu
        have : q = k := by omega
        subst this
        rw [hd] at h2
        exact absurd (Option.some.inj h2) h0
theorem wantL_drop {nows : List Int} {q : Nat} {n a : Int} (h : nows[q]? = some n) : wantL (nows.drop q) (q : Int) a = if a ≤ n then (q : Int) + 1 else wantL (nows.drop (q + 1)) ((q : Int) + 1) a := by
  rw [drop_cons h]; rfl
theorem OnceI.end_ {times nows : List Int} {ds : List Int} {m : List (Int × Int)} (h : OnceI times nows nows.length ds m) {k : Nat} {a d : Int} (ha : times[k]? = some a) (hd : ds[k]? = some d) : d = wantL nows 0 a ∨ d = -1 := by
  rcases h.val k a ha with ⟨_, h1⟩ | ⟨_, h1, _⟩
  · rw [hd] at h1; exact .inr (Option.some.inj h1)
  · rw [hd, List.take_length] at h1; exact .inl (Option.some.inj h1)
theorem dueH_ok {m : List (Int × Int)} (hk : (m.map (·.1)).Nodup) {hand now : Int} (h0 : 0 ≤ hand ∧ hand ≤ 1099511627776) (hm : ∀ t ∈ m, hand ≤ t.2) : (0 ≤ dueH hand now ∧ dueH hand now ≤ 1099511627776) ∧ ∀ t ∈ canL m (dueK m now), dueH hand now ≤ t.2 := by
  unfold dueH
  split
  · exact ⟨h0, fun t ht => hm t ((mem_rest hk).1 ht).1⟩
  · refine ⟨by omega, fun t ht => ?_⟩
    have := ((mem_rest hk).1 ht).2
    omega
theorem rep_int (n : Nat) : List.replicate n (Value.int .i64 0) = (List.replicate n (0 : Int)).flatMap (Go.Tw.encI .i64) := by
  induction n with
  | zero => rfl
  | succ k ih => rw [List.replicate_succ, List.replicate_succ, List.flatMap_cons, ih]; rfl
set_option maxHeartbeats 2000000 in
theorem WheelOnce_ct (slots : Int) (A : Option Addr) (c : Nat) (times : List Int) (B : Option Addr) (c2 : Nat) (nows : List Int) (w : World) (hr : Rd w 1 (Go.Tw.encI .i64) A times) (hr2 : Rd w 1 (Go.Tw.encI .i64) B nows) (hnb : ∀ x ∈ nows, x ≤ 9223372036854775807) : Calls Try.prog 3 #[.int .i64 slots, .slice A times.length c, .slice B nows.length c2] w fun e w' => e = .returned (.bool true) ∧ Fr w w' [] := by
  refine enterD (n := 156) Try.func3 rfl rfl (Nat.le_of_ble_eq_true rfl) ?_
  intro Q0 hN hret hret'
  have hC := Cx.start w
  refine WC.seq (fun K1 hK2 => ?_)
  refine WC.region ?_
  refine WL.runs 1 [(6, .bool false)] (fun _ => by kernel_rfl) ?_
  refine WL.done rfl ?_
  refine QX.then_normal (hK2 _ _ ?_)
  refine WC.seq (fun K3 hK4 => ?_)
  refine WC.seq (fun K5 hK6 => ?_)
  refine WC.region ?_
  refine WL.call rfl rfl rfl rfl rfl (by kernel_rfl) (alive_ct w) ?_
  rintro _ w8 ⟨rfl, hF7⟩
  refine ⟨_, rfl, ?_⟩
  have hC9 := hC.call hF7
  refine WL.runs 1 [(21, .bool false)] (fun _ => by kernel_rfl) ?_
  refine WL.done rfl ?_
  refine QX.then_normal (hK6 _ _ ?_)
  refine WC.cond_false rfl ?_
  refine WC.skip ?_
  refine QX.then_normal (hK4 _ _ ?_)
  refine WC.seq (fun K10 hK11 => ?_)
  refine WC.seq (fun K12 hK13 => ?_)
  refine WC.region ?_
  refine WL.runs 3 [(24, .bool (decide (slots < 1))), (23, .bool (decide (slots < 1))), (22, .int .i64 slots)] (fun _ => by kernel_rfl) ?_
  refine WL.test_at 24 (decide (slots < 1)) rfl (fun t14b => ?_) (fun t14b => ?_)
  · -- slots < 1: true
    have t14 : slots < 1 := by have q_ := of_decide_eq_true t14b; omega
    refine WL.runs 13 [(37, .bool true), (36, undef), (35, undef), (34, undef), (33, .bool true), (32, .bool true), (31, undef), (30, undef), (29, undef), (28, .bool true), (27, .bool true), (26, undef), (25, undef)] (fun _ => by kernel_rfl) ?_
    refine WL.done rfl ?_
    refine QX.then_normal (hK13 _ _ ?_)
    refine WC.cond_true rfl ?_
    refine WC.seq (fun K15 hK16 => ?_)
    refine WC.region ?_
    refine WL.runs 1 [(6, .bool true)] (fun _ => by kernel_rfl) ?_
    refine WL.done rfl ?_
    refine QX.then_normal (hK16 _ _ ?_)
    refine WC.ret ?_
    refine QX.then_ret ?_
    refine (hret _ _ _ rfl ?_).1
    clear hN hret hret' hK16 hK13 hK11 hK6 hK4 hK2
    exact ⟨rfl, hC9.fr⟩
  · -- slots < 1: false
    have t14 : (1 : Int) ≤ slots := by have q_ := of_decide_eq_false t14b; omega
    refine WL.runs 4 [(28, .bool (decide (slots > 1024))), (27, .bool (decide (slots > 1024))), (26, .bool (decide (slots > 1024))), (25, .int .i64 slots)] (fun _ => by kernel_rfl) ?_
    refine WL.test_at 28 (decide (slots > 1024)) rfl (fun t17b => ?_) (fun t17b => ?_)
    · -- slots > 1024: true
      have t17 : (1024 : Int) < slots := by have q_ := of_decide_eq_true t17b; omega
      refine WL.runs 9 [(37, .bool true), (36, undef), (35, undef), (34, undef), (33, .bool true), (32, .bool true), (31, undef), (30, undef), (29, undef)] (fun _ => by kernel_rfl) ?_
      refine WL.done rfl ?_
      refine QX.then_normal (hK13 _ _ ?_)
      refine WC.cond_true rfl ?_
      refine WC.seq (fun K18 hK19 => ?_)
      refine WC.region ?_
      refine WL.runs 1 [(6, .bool true)] (fun _ => by kernel_rfl) ?_
      refine WL.done rfl ?_
      refine QX.then_normal (hK19 _ _ ?_)
      refine WC.ret ?_
      refine QX.then_ret ?_
      refine (hret _ _ _ rfl ?_).1
      clear hN hret hret' hK19 hK13 hK11 hK6 hK4 hK2
      exact ⟨rfl, hC9.fr⟩
    · -- slots > 1024: false
      have t17 : slots ≤ 1024 := by have q_ := of_decide_eq_false t17b; omega
      refine WL.runs 5 [(33, .bool (decide ((times.length : Int) > 200))), (32, .bool (decide ((times.length : Int) > 200))), (31, .bool (decide ((times.length : Int) > 200))), (30, .int .i64 (times.length : Int)), (29, .slice A times.length c)] (fun _ => by kernel_rfl) ?_
      refine WL.test_at 33 (decide ((times.length : Int) > 200)) rfl (fun t20b => ?_) (fun t20b => ?_)
      · -- (times.length : Int) > 200: true
        have t20 : (200 : Int) < (times.length : Int) := by have q_ := of_decide_eq_true t20b; omega
        refine WL.runs 4 [(37, .bool true), (36, undef), (35, undef), (34, undef)] (fun _ => by kernel_rfl) ?_
        refine WL.done rfl ?_
        refine QX.then_normal (hK13 _ _ ?_)
        refine WC.cond_true rfl ?_
        refine WC.seq (fun K21 hK22 => ?_)
        refine WC.region ?_
        refine WL.runs 1 [(6, .bool true)] (fun _ => by kernel_rfl) ?_
        refine WL.done rfl ?_
        refine QX.then_normal (hK22 _ _ ?_)
        refine WC.ret ?_
        refine QX.then_ret ?_
        refine (hret _ _ _ rfl ?_).1
        clear hN hret hret' hK22 hK13 hK11 hK6 hK4 hK2
        exact ⟨rfl, hC9.fr⟩
      · -- (times.length : Int) > 200: false
        have t20 : (times.length : Int) ≤ 200 := by have q_ := of_decide_eq_false t20b; omega
        refine WL.runs 4 [(37, .bool (decide ((nows.length : Int) > 200))), (36, .bool (decide ((nows.length : Int) > 200))), (35, .int .i64 (nows.length : Int)), (34, .slice B nows.length c2)] (fun _ => by kernel_rfl) ?_
        refine WL.done rfl ?_
        refine QX.then_normal (hK13 _ _ ?_)
        refine WC.test_at 37 (decide ((nows.length : Int) > 200)) rfl (fun t23b => ?_) (fun t23b => ?_)
        · -- (nows.length : Int) > 200: true
          have t23 : (200 : Int) < (nows.length : Int) := by have q_ := of_decide_eq_true t23b; omega
          refine WC.cond_true rfl ?_
          refine WC.seq (fun K24 hK25 => ?_)
          refine WC.region ?_
          refine WL.runs 1 [(6, .bool true)] (fun _ => by kernel_rfl) ?_
          refine WL.done rfl ?_
          refine QX.then_normal (hK25 _ _ ?_)
          refine WC.ret ?_
          refine QX.then_ret ?_
          refine (hret _ _ _ rfl ?_).1
          clear hN hret hret' hK25 hK13 hK11 hK6 hK4 hK2
          exact ⟨rfl, hC9.fr⟩
        · -- (nows.length : Int) > 200: false
          have t23 : (nows.length : Int) ≤ 200 := by have q_ := of_decide_eq_false t23b; omega
          refine WC.cond_false rfl ?_
          refine WC.skip ?_
          refine QX.then_normal (hK11 _ _ ?_)
          refine WC.seq (fun K26 hK27 => ?_)
          refine WC.region ?_
          refine WL.runs 1 [(39, .int .i64 slots)] (fun _ => by kernel_rfl) ?_
          refine WL.call rfl rfl rfl rfl rfl (by kernel_rfl) (New_z slots w8 (by omega) (by omega)) ?_
          rintro _ w33 ⟨p28, F29, rfl, hF32, hT30, hge31⟩
          have hC34 := hC9.callN hF32 hge31 (whAt_lt hT30)
          refine ⟨_, rfl, ?_⟩
          refine WL.runs 5 [(8, .nilIface), (7, .pointer (some ⟨p28, 0, none⟩)), (42, .nilIface), (41, .pointer (some ⟨p28, 0, none⟩)), (38, .tuple #[.pointer (some ⟨p28, 0, none⟩), .nilIface])] (fun _ => by kernel_rfl) ?_
          refine WL.done rfl ?_
          refine QX.then_normal (hK27 _ _ ?_)
          refine WC.seq (fun K36 hK37 => ?_)
          refine WC.seq (fun K38 hK39 => ?_)
          refine WC.region ?_
          refine WL.runs 6 [(48, .bool false), (47, .bool false), (46, .pointer (some ⟨p28, 0, none⟩)), (45, .bool false), (44, .bool false), (43, .nilIface)] (fun _ => by kernel_rfl) ?_
          refine WL.done rfl ?_
          refine QX.then_normal (hK39 _ _ ?_)
          refine WC.cond_false rfl ?_
          refine WC.skip ?_
          refine QX.then_normal (hK37 _ _ ?_)
          refine WC.seq (fun K40 hK41 => ?_)
          refine WC.region ?_
          refine WL.runs 2 [(50, .int .i64 (times.length : Int)), (49, .slice A times.length c)] (fun _ => by kernel_rfl) ?_
          obtain ⟨Ad42, w43, hr44, hF45, ho46, hC47⟩ := makeO_run (P := Try.prog) hC34 22 3 8 times.length .i64 .i64 (.int .i64 0) (by kernel_rfl) (by kernel_rfl) rfl (by omega) (by simp only [maxLen]; omega)
          refine WL.sem (Instr.makeSlice 22 (.int .i64 (times.length : Int)) (.int .i64 (times.length : Int))) 51 (.slice Ad42 times.length times.length) (by kernel_rfl) hr44 ?_
          have hf49 := whAt_fr hT30 hF45 (by simp)
          have ho48 := ho46
          rw [rep_int] at ho48
          refine WL.runs 1 [(9, .slice Ad42 times.length times.length)] (fun _ => by kernel_rfl) ?_
          refine WL.done rfl ?_
          refine QX.then_normal (hK41 _ _ ?_)
          refine WC.seq (fun K50 hK51 => ?_)
          refine WC.seq (fun K52 hK53 => ?_)
          refine WC.region ?_
          refine WL.runs 3 [(54, .int .i64 0), (53, .int .i64 (times.length : Int)), (52, .slice A times.length c)] (fun _ => by kernel_rfl) ?_
          refine WL.done rfl ?_
          refine QX.then_normal (hK53 _ _ ?_)
          refine WC.block ?_
          refine WC.loop (fun m_ E_ w_ => ∃ (i : Nat) (F5 : List Nat) (m5 : List (Int × Int)) (ds5 : List Int), m_ = times.length - i ∧ E_ = [(0, .int .i64 slots), (1, .slice A times.length c), (2, .slice B nows.length c2), (7, .pointer (some ⟨p28, 0, none⟩)), (9, .slice Ad42 times.length times.length), (52, .slice A times.length c), (53, .int .i64 (times.length : Int)), (54, .int .i64 (i : Int))] ∧ Cx w [] w_ [] [F5, blk (.slice Ad42 times.length times.length)] ∧ whAt w_ F5 p28 (Int.toNat slots) m5 0 ∧ World.ownsRow w_ 0 3 1 (.slice Ad42 times.length times.length) times.length (ds5.flatMap (Go.Tw.encI .i64)) ∧ (i ≤ times.length ∧ SetI times i ds5 m5 ∧ m5.length ≤ i)) ⟨_, _, ⟨0, F29, [], (List.replicate times.length 0), rfl, rfl, hC47, hf49, ho48, Nat.zero_le _, SetI.start _, Nat.le_refl _⟩, sub_of ⟨rfl, rfl, rfl, rfl, rfl, rfl, rfl, rfl, trivial⟩⟩ (fun m57 E_ w58 K54 hK55 hI56 => ?_)
          obtain ⟨i, F5, m5, ds5, rfl, rfl, hC59, hwh5, hdu5, hi, hst, hml5⟩ := hI56
          have hdl5_ := hst.len
          refine WC.seq (fun K60 hK61 => ?_)
          refine WC.region ?_
          refine WL.runs 1 [(55, .bool (decide ((i : Int) < (times.length : Int))))] (fun _ => by kernel_rfl) ?_
          refine WL.done rfl ?_
          refine QX.then_normal (hK61 _ _ ?_)
          refine WC.seq (fun K62 hK63 => ?_)
          refine WC.test_at 55 (decide ((i : Int) < (times.length : Int))) rfl (fun t64b => ?_) (fun t64b => ?_)
          · -- (i : Int) < (times.length : Int): true
            have t64 : (i : Int) < (times.length : Int) := by have q_ := of_decide_eq_true t64b; omega
            refine WC.cond_true rfl ?_
            refine WC.skip ?_
            refine QX.then_normal (hK63 _ _ ?_)
            refine WC.seq (fun K65 hK66 => ?_)
            refine WC.block ?_
            refine WC.seq (fun K67 hK68 => ?_)
            refine WC.region ?_
            refine WL.runs 1 [(56, .int .i64 (i : Int))] (fun _ => by kernel_rfl) ?_
            obtain ⟨e69, he70⟩ := get_some (xs := times) (i := i) (by omega)
            obtain ⟨b71, o73, hA72, hc74⟩ := hr.at_ _ _ he70
            refine WL.index A times.length c 57 .i64 (i : Int) b71 o73 i 1 (by kernel_rfl) hA72 (by omega) (by omega) (o73 + i) (by first | (simp; done) | omega) ?_
            rcases (show (e69 < 0 ∨ 1099511627776 < e69) ∨ (0 ≤ e69 ∧ e69 ≤ 1099511627776) by omega) with hb75 | hb75
            · skip
              refine WL.load 3 (.pointer (some ⟨b71, o73 + i, none⟩)) (.int .i64 e69) 58 (by kernel_rfl) (run_load1 rfl (by simpa [Nat.add_assoc] using hC59.fr.cell (hc74 0 _ rfl) (by simp))) ?_
              refine WL.runs 2 [(11, .int .i64 e69), (10, .int .i64 (i : Int))] (fun _ => by kernel_rfl) ?_
              refine WL.done rfl ?_
              refine QX.then_normal (hK68 _ _ ?_)
              refine WC.seq (fun K76 hK77 => ?_)
              refine WC.region ?_
              refine WL.runs 3 [(61, .int .i64 (i : Int)), (60, .int .i64 e69), (59, .pointer (some ⟨p28, 0, none⟩))] (fun _ => by kernel_rfl) ?_
              refine WL.newM hC59 (fun b => .slice (some ⟨b, 0, none⟩) 1 1) (.cells #[.int .i64 (i : Int)] 3) 62 (fun _ => by kernel_rfl) (fun g78 w79 hb82 hF80 hC81 => ?_)
              have hf83 := whAt_fr hwh5 hF80 (by simp)
              have ho84 := own_fr hdu5 hF80 (by simp)
              refine WL.call rfl rfl rfl rfl rfl (by kernel_rfl) (Set_no p28 e69 (some ⟨g78, 0, none⟩) 1 1 w79 (hb75)) ?_
              rintro _ w86 ⟨rfl, hF85⟩
              refine ⟨_, rfl, ?_⟩
              have hC87 := hC81.call hF85
              have hf88 := whAt_fr hf83 hF85 (by simp)
              have ho89 := own_fr ho84 hF85 (by simp)
              refine WL.runs 1 [(64, .bool true)] (fun _ => by kernel_rfl) ?_
              refine WL.done rfl ?_
              refine QX.then_normal (hK77 _ _ ?_)
              refine WC.cond_true rfl ?_
              refine WC.seq (fun K90 hK91 => ?_)
              refine WC.region ?_
              refine WL.runs 2 [(66, .int .i64 (i : Int)), (65, .slice Ad42 times.length times.length)] (fun _ => by kernel_rfl) ?_
              have hn96 := own_count (Go.Tw.encI_len _) (by decide) ho89
              obtain ⟨e92, he93⟩ := get_some (xs := ds5) (i := i) (by omega)
              obtain ⟨b94, hA95⟩ := own_addr (by decide) (Go.Tw.encI_len _) ho89 he93
              refine WL.index Ad42 times.length times.length 67 .i64 (i : Int) b94 0 i 1 (by kernel_rfl) hA95 (by omega) (by omega) i (by first | (simp; done) | omega) ?_
              obtain ⟨w97, hr98, hF99, ho101, hC100⟩ := stoE_run Try.prog (Go.Tw.encI_len _) hC87 1 hA95 rfl ho89 i 0 (x := e92) he93 (-1) [.int .i64 (-1)] rfl 3 (.int .i64 (-1)) (i) rfl rfl rfl (by simp [Nat.add_assoc])
              refine WL.semU (Instr.storeAt 3 (.pointer (some ⟨b94, i, none⟩)) (.int .i64 (-1))) (by kernel_rfl) hr98 ?_
              have hf102 := whAt_fr hf88 hF99 (hC87.disj 0 1 rfl rfl (by decide))
              refine WL.done rfl ?_
              refine QX.then_normal (hK91 _ _ ?_)
              refine WC.seq (fun K103 hK104 => ?_)
              refine WC.region ?_
              refine WL.runs 3 [(70, .bool (decide (e69 ≥ 0))), (69, .bool (decide (e69 ≥ 0))), (68, .int .i64 e69)] (fun _ => by kernel_rfl) ?_
              refine WL.test_at 70 (decide (e69 ≥ 0)) rfl (fun t105b => ?_) (fun t105b => ?_)
              · -- e69 ≥ 0: true
                have t105 : (0 : Int) ≤ e69 := by have q_ := of_decide_eq_true t105b; omega
                refine WL.runs 3 [(73, .bool (decide (e69 ≤ 1099511627776))), (72, .bool (decide (e69 ≤ 1099511627776))), (71, .int .i64 e69)] (fun _ => by kernel_rfl) ?_
                refine WL.done rfl ?_
                refine QX.then_normal (hK104 _ _ ?_)
                refine WC.test_at 73 (decide (e69 ≤ 1099511627776)) rfl (fun t106b => ?_) (fun t106b => ?_)
                · -- e69 ≤ 1099511627776: true
                  have t106 : e69 ≤ 1099511627776 := by have q_ := of_decide_eq_true t106b; omega
                  refine WC.cond_true rfl ?_
                  refine WC.seq (fun K107 hK108 => ?_)
                  refine WC.region ?_
                  refine WL.runs 1 [(6, .bool false)] (fun _ => by kernel_rfl) ?_
                  refine WL.done rfl ?_
                  refine QX.then_normal (hK108 _ _ ?_)
                  refine WC.ret ?_
                  refine QX.block_ret ?_
                  refine QX.then_ret ?_
                  refine QX.then_ret ?_
                  refine QX.block_ret ?_
                  refine QX.then_ret ?_
                  refine (hret _ _ _ rfl ?_).1
                  clear hN hret hret' hK108 hK104 hK91 hK77 hK68 hK66 hK63 hK61 hK53 hK51 hK41 hK39 hK37 hK27 hK13 hK11 hK6 hK4 hK2
                  exfalso; omega
                · -- e69 ≤ 1099511627776: false
                  have t106 : (1099511627776 : Int) < e69 := by have q_ := of_decide_eq_false t106b; omega
                  refine WC.cond_false rfl ?_
                  refine WC.skip ?_
                  refine QX.block_normal ?_
                  refine QX.then_normal (hK66 _ _ ?_)
                  refine WC.region ?_
                  refine WL.runs 1 [(74, .int .i64 (IntKind.i64.wrap ((i : Int) + 1)))] (fun _ => by kernel_rfl) ?_
                  refine WL.recast (show (.int .i64 (IntKind.i64.wrap ((i : Int) + 1)) : Value) = .int .i64 ((i : Int) + 1) from by rw [wrap_in_i64 ((i : Int) + 1) (by omega) (by omega)]) ?_
                  refine WL.runs 1 [(54, .int .i64 ((i : Int) + 1))] (fun _ => by kernel_rfl) ?_
                  refine WL.done rfl ?_
                  refine QX.then_normal ?_
                  have hC109 := hC100.pick [] [0, 1] rfl rfl
                  refine fun a_ ha_ => hK55 _ _ _ ?_ ⟨i + 1, F5, m5, ds5.set i (-1), rfl, rfl, hC109, hf102, ho101, by omega, hst.bad he70 (fun h_ => by unfold validT at h_; omega), by omega⟩ a_ (ha_.weaken (sub_of ⟨rfl, rfl, rfl, rfl, rfl, rfl, rfl, rfl, trivial⟩))
                  omega
              · -- e69 ≥ 0: false
                have t105 : e69 < 0 := by have q_ := of_decide_eq_false t105b; omega
                refine WL.runs 3 [(73, .bool false), (72, undef), (71, undef)] (fun _ => by kernel_rfl) ?_
                refine WL.done rfl ?_
                refine QX.then_normal (hK104 _ _ ?_)
                refine WC.cond_false rfl ?_
                refine WC.skip ?_
                refine QX.block_normal ?_
                refine QX.then_normal (hK66 _ _ ?_)
                refine WC.region ?_
                refine WL.runs 1 [(74, .int .i64 (IntKind.i64.wrap ((i : Int) + 1)))] (fun _ => by kernel_rfl) ?_
                refine WL.recast (show (.int .i64 (IntKind.i64.wrap ((i : Int) + 1)) : Value) = .int .i64 ((i : Int) + 1) from by rw [wrap_in_i64 ((i : Int) + 1) (by omega) (by omega)]) ?_
                refine WL.runs 1 [(54, .int .i64 ((i : Int) + 1))] (fun _ => by kernel_rfl) ?_
                refine WL.done rfl ?_
                refine QX.then_normal ?_
                have hC110 := hC100.pick [] [0, 1] rfl rfl
                refine fun a_ ha_ => hK55 _ _ _ ?_ ⟨i + 1, F5, m5, ds5.set i (-1), rfl, rfl, hC110, hf102, ho101, by omega, hst.bad he70 (fun h_ => by unfold validT at h_; omega), by omega⟩ a_ (ha_.weaken (sub_of ⟨rfl, rfl, rfl, rfl, rfl, rfl, rfl, rfl, trivial⟩))
                omega
            · skip
              obtain ⟨hg0_, hg1_⟩ := hb75
              refine WL.load 3 (.pointer (some ⟨b71, o73 + i, none⟩)) (.int .i64 e69) 58 (by kernel_rfl) (run_load1 rfl (by simpa [Nat.add_assoc] using hC59.fr.cell (hc74 0 _ rfl) (by simp))) ?_
              refine WL.runs 2 [(11, .int .i64 e69), (10, .int .i64 (i : Int))] (fun _ => by kernel_rfl) ?_
              refine WL.done rfl ?_
              refine QX.then_normal (hK68 _ _ ?_)
              refine WC.seq (fun K111 hK112 => ?_)
              refine WC.region ?_
              refine WL.runs 3 [(61, .int .i64 (i : Int)), (60, .int .i64 e69), (59, .pointer (some ⟨p28, 0, none⟩))] (fun _ => by kernel_rfl) ?_
              refine WL.newM hC59 (fun b => .slice (some ⟨b, 0, none⟩) 1 1) (.cells #[.int .i64 (i : Int)] 3) 62 (fun _ => by kernel_rfl) (fun g113 w114 hb117 hF115 hC116 => ?_)
              have hf118 := whAt_fr hwh5 hF115 (by simp)
              have ho119 := own_fr hdu5 hF115 (by simp)
              refine WL.call rfl rfl rfl rfl rfl (by kernel_rfl) (Set_to F5 p28 (Int.toNat slots) m5 0 e69 (some ⟨g113, 0, none⟩) 1 1 [(i : Int)] w114 (m5 ++ [((i : Int), e69)]) 0 (set_new hst.lt) (setH_0 (by omega) _) hf118 (by omega) (by omega) (by simp; omega) (Rd.blk (hC116.get 0 rfl) (Go.Tw.encI_len _) rfl) rfl (by simp) (fun _ _ e_ => by cases e_; exact hC116.notin 0 0 rfl rfl)) ?_
              rintro _ w121 ⟨F124, rfl, hF120, hT123, hsub125⟩
              have hT123' : whAt w121 F124 p28 (Int.toNat slots) (m5 ++ [((i : Int), e69)]) 0 := hT123
              have hC122 := hC116.callF 0 rfl hF120 hsub125 (whAt_lt hT123')
              refine ⟨_, rfl, ?_⟩
              have ho126 := own_fr ho119 hF120 (hC116.disj 1 0 rfl rfl (by decide))
              refine WL.runs 1 [(64, .bool false)] (fun _ => by kernel_rfl) ?_
              refine WL.done rfl ?_
              refine QX.then_normal (hK112 _ _ ?_)
              refine WC.cond_false rfl ?_
              refine WC.skip ?_
              refine QX.block_normal ?_
              refine QX.then_normal (hK66 _ _ ?_)
              refine WC.region ?_
              refine WL.runs 1 [(74, .int .i64 (IntKind.i64.wrap ((i : Int) + 1)))] (fun _ => by kernel_rfl) ?_
              refine WL.recast (show (.int .i64 (IntKind.i64.wrap ((i : Int) + 1)) : Value) = .int .i64 ((i : Int) + 1) from by rw [wrap_in_i64 ((i : Int) + 1) (by omega) (by omega)]) ?_
              refine WL.runs 1 [(54, .int .i64 ((i : Int) + 1))] (fun _ => by kernel_rfl) ?_
              refine WL.done rfl ?_
              refine QX.then_normal ?_
              have hC127 := hC122.pick [] [0, 1] rfl rfl
              refine fun a_ ha_ => hK55 _ _ _ ?_ ⟨i + 1, F124, (m5 ++ [((i : Int), e69)]), ds5, rfl, rfl, hC127, hT123', ho126, by omega, hst.good he70 ⟨hg0_, hg1_⟩, by rw [List.length_append]; simp only [List.length_cons, List.length_nil]; omega⟩ a_ (ha_.weaken (sub_of ⟨rfl, rfl, rfl, rfl, rfl, rfl, rfl, rfl, trivial⟩))
              omega
          · -- (i : Int) < (times.length : Int): false
            have t64 : (times.length : Int) ≤ (i : Int) := by have q_ := of_decide_eq_false t64b; omega
            refine WC.cond_false rfl ?_
            refine WC.exit ?_
            refine QX.then_exit ?_
            refine QX.then_exit ?_
            refine QX.block_hit ?_
            refine QX.then_normal (hK51 _ _ ?_)
            refine WC.seq (fun K128 hK129 => ?_)
            refine WC.seq (fun K130 hK131 => ?_)
            refine WC.region ?_
            refine WL.runs 3 [(77, .int .i64 0), (76, .int .i64 (nows.length : Int)), (75, .slice B nows.length c2)] (fun _ => by kernel_rfl) ?_
            refine WL.done rfl ?_
            refine QX.then_normal (hK131 _ _ ?_)
            refine WC.block ?_
            have hie_ : i = times.length := by omega
            subst hie_
            have hon0_ := hst.once (nows := nows)
            have hok5_ := whAt_ok hwh5
            refine WC.loop (fun m_ E_ w_ => ∃ (r : Nat) (F6 : List Nat) (m6 : List (Int × Int)) (h6 : Int) (ds6 : List Int), m_ = nows.length - r ∧ E_ = [(0, .int .i64 slots), (1, .slice A times.length c), (2, .slice B nows.length c2), (7, .pointer (some ⟨p28, 0, none⟩)), (9, .slice Ad42 times.length times.length), (75, .slice B nows.length c2), (76, .int .i64 (nows.length : Int)), (77, .int .i64 (r : Int))] ∧ Cx w [] w_ [] [F6, blk (.slice Ad42 times.length times.length)] ∧ whAt w_ F6 p28 (Int.toNat slots) m6 h6 ∧ World.ownsRow w_ 0 3 1 (.slice Ad42 times.length times.length) times.length (ds6.flatMap (Go.Tw.encI .i64)) ∧ (r ≤ nows.length ∧ OnceI times nows r ds6 m6 ∧ (0 ≤ h6 ∧ h6 ≤ 1099511627776) ∧ (∀ t ∈ m6, h6 ≤ t.2) ∧ m6.length ≤ times.length)) ⟨_, _, ⟨0, F5, m5, 0, ds5, rfl, rfl, hC59, hwh5, hdu5, Nat.zero_le _, hon0_, by omega, (fun t_ ht_ => (hok5_.2.2 t_ ht_).1), by omega⟩, sub_of ⟨rfl, rfl, rfl, rfl, rfl, rfl, rfl, rfl, trivial⟩⟩ (fun m135 E_ w136 K132 hK133 hI134 => ?_)
            obtain ⟨r, F6, m6, h6, ds6, rfl, rfl, hC137, hwh6, hdu6, hr6, hon, hh6, hhm6, hml6⟩ := hI134
            have hdl6_ := hon.len
            refine WC.seq (fun K138 hK139 => ?_)
            refine WC.region ?_
            refine WL.runs 1 [(78, .bool (decide ((r : Int) < (nows.length : Int))))] (fun _ => by kernel_rfl) ?_
            refine WL.done rfl ?_
            refine QX.then_normal (hK139 _ _ ?_)
            refine WC.seq (fun K140 hK141 => ?_)
            refine WC.test_at 78 (decide ((r : Int) < (nows.length : Int))) rfl (fun t142b => ?_) (fun t142b => ?_)
            · -- (r : Int) < (nows.length : Int): true
              have t142 : (r : Int) < (nows.length : Int) := by have q_ := of_decide_eq_true t142b; omega
              refine WC.cond_true rfl ?_
              refine WC.skip ?_
              refine QX.then_normal (hK141 _ _ ?_)
              refine WC.seq (fun K143 hK144 => ?_)
              refine WC.block ?_
              refine WC.seq (fun K145 hK146 => ?_)
              refine WC.region ?_
              refine WL.runs 1 [(79, .int .i64 (r : Int))] (fun _ => by kernel_rfl) ?_
              obtain ⟨e147, he148⟩ := get_some (xs := nows) (i := r) (by omega)
              obtain ⟨b149, o151, hA150, hc152⟩ := hr2.at_ _ _ he148
              refine WL.index B nows.length c2 80 .i64 (r : Int) b149 o151 r 1 (by kernel_rfl) hA150 (by omega) (by omega) (o151 + r) (by first | (simp; done) | omega) ?_
              have hnb_ := hnb _ (List.mem_of_getElem? he148)
              refine WL.load 3 (.pointer (some ⟨b149, o151 + r, none⟩)) (.int .i64 e147) 81 (by kernel_rfl) (run_load1 rfl (by simpa [Nat.add_assoc] using hC137.fr.cell (hc152 0 _ rfl) (by simp))) ?_
              refine WL.runs 2 [(13, .int .i64 e147), (12, .int .i64 (r : Int))] (fun _ => by kernel_rfl) ?_
              refine WL.done rfl ?_
              refine QX.then_normal (hK146 _ _ ?_)
              refine WC.seq (fun K153 hK154 => ?_)
              refine WC.region ?_
              refine WL.runs 2 [(83, .int .i64 e147), (82, .pointer (some ⟨p28, 0, none⟩))] (fun _ => by kernel_rfl) ?_
              refine WL.call rfl rfl rfl rfl rfl (by kernel_rfl) (Due_to F6 p28 (Int.toNat slots) m6 h6 e147 w136 (dueK m6 e147) (canL m6 (dueK m6 e147)) (dueH h6 e147) (rfl) (rfl) (rfl) hwh6 hh6.1 hh6.2 hnb_ hhm6 (by omega)) ?_
              rintro _ w162 ⟨v155, F156, rfl, hF157, hT158, hsub159, ho160, hd161⟩
              have hC163 := hC137.callFN 0 rfl hF157 hsub159 (whAt_lt hT158) (own_ge ho160) (own_lt ho160) (fun x_ hx_ h_ => hd161 x_ h_ hx_)
              obtain ⟨A164, c165, rfl, hle166⟩ := own_form ho160
              have ho167 := own_base (b' := 0) ho160 (fun _ _ => Nat.zero_le _)
              refine ⟨_, rfl, ?_⟩
              have ho168 := own_fr hdu6 hF157 (hC137.disj 1 0 rfl rfl (by decide))
              refine WL.runs 2 [(86, .int .i64 0), (85, .int .i64 ((dueK m6 e147).length : Int))] (fun _ => by kernel_rfl) ?_
              refine WL.done rfl ?_
              refine QX.then_normal (hK154 _ _ ?_)
              refine WC.block ?_
              refine WC.loop (fun m_ E_ w_ => ∃ (j : Nat) (ds7 : List Int), m_ = (dueK m6 e147).length - j ∧ E_ = [(0, .int .i64 slots), (1, .slice A times.length c), (2, .slice B nows.length c2), (7, .pointer (some ⟨p28, 0, none⟩)), (9, .slice Ad42 times.length times.length), (12, .int .i64 (r : Int)), (13, .int .i64 e147), (75, .slice B nows.length c2), (76, .int .i64 (nows.length : Int)), (77, .int .i64 (r : Int)), (84, .slice A164 ((dueK m6 e147).length) c165), (85, .int .i64 ((dueK m6 e147).length : Int)), (86, .int .i64 (j : Int))] ∧ Cx w [] w_ [] [F156, blk (.slice Ad42 times.length times.length), blk (.slice A164 ((dueK m6 e147).length) c165)] ∧ whAt w_ F156 p28 (Int.toNat slots) (canL m6 (dueK m6 e147)) (dueH h6 e147) ∧ World.ownsRow w_ 0 3 1 (.slice A164 ((dueK m6 e147).length) c165) ((dueK m6 e147).length) ((dueK m6 e147).flatMap (Go.Tw.encI .i64)) ∧ World.ownsRow w_ 0 3 1 (.slice Ad42 times.length times.length) times.length (ds7.flatMap (Go.Tw.encI .i64)) ∧ (j ≤ (dueK m6 e147).length ∧ ds7 = dsK ds6 ((dueK m6 e147).take j) ((r : Int) + 1))) ⟨_, _, ⟨0, ds6, rfl, rfl, hC163, hT158, ho167, ho168, Nat.zero_le _, rfl⟩, sub_of ⟨rfl, rfl, rfl, rfl, rfl, rfl, rfl, rfl, rfl, rfl, rfl, rfl, rfl, trivial⟩⟩ (fun m173 E_ w174 K170 hK171 hI172 => ?_)
              obtain ⟨j, ds7, rfl, rfl, hC175, whl35_m173, row169_m173, hdu7, hj, hds7⟩ := hI172
              have hdl7_ : ds7.length = times.length := by rw [hds7, dsK_len]; exact hdl6_
              have hkl7_ := dueK_len m6 e147
              refine WC.seq (fun K176 hK177 => ?_)
              refine WC.region ?_
              refine WL.runs 1 [(87, .bool (decide ((j : Int) < ((dueK m6 e147).length : Int))))] (fun _ => by kernel_rfl) ?_
              refine WL.done rfl ?_
              refine QX.then_normal (hK177 _ _ ?_)
              refine WC.seq (fun K178 hK179 => ?_)
              refine WC.test_at 87 (decide ((j : Int) < ((dueK m6 e147).length : Int))) rfl (fun t180b => ?_) (fun t180b => ?_)
              · -- (j : Int) < ((dueK m6 e147).length : Int): true
                have t180 : (j : Int) < ((dueK m6 e147).length : Int) := by have q_ := of_decide_eq_true t180b; omega
                refine WC.cond_true rfl ?_
                refine WC.skip ?_
                refine QX.then_normal (hK179 _ _ ?_)
                refine WC.seq (fun K181 hK182 => ?_)
                refine WC.block ?_
                refine WC.seq (fun K183 hK184 => ?_)
                refine WC.region ?_
                have hn189 := own_count (Go.Tw.encI_len _) (by decide) row169_m173
                obtain ⟨e185, he186⟩ := get_some (xs := (dueK m6 e147)) (i := j) (by omega)
                obtain ⟨b187, hA188⟩ := own_addr (by decide) (Go.Tw.encI_len _) row169_m173 he186
                refine WL.index A164 ((dueK m6 e147).length) c165 88 .i64 (j : Int) b187 0 j 1 (by kernel_rfl) hA188 (by omega) (by omega) j (by first | (simp; done) | omega) ?_
                obtain ⟨q_, a_, hkq_, hta_, han_, hdz_⟩ := hon.at_ (v := (r : Int) + 1) he186
                rw [← hds7] at hdz_
                have hql_ := (List.getElem?_eq_some_iff.1 hta_).1
                refine WL.load 3 (.pointer (some ⟨b187, j, none⟩)) (.int .i64 e185) 89 (by kernel_rfl) (run_load1 rfl (by simpa [Nat.add_assoc] using Rd.cell (own_rd row169_m173 (Go.Tw.encI_len _) (by decide)) hA188 he186 0 _ rfl)) ?_
                refine WL.runs 1 [(15, .int .i64 e185)] (fun _ => by kernel_rfl) ?_
                refine WL.recast (show (.int .i64 e185 : Value) = .int .i64 (q_ : Int) from congrArg (Value.int .i64) hkq_) ?_
                refine WL.done rfl ?_
                refine QX.then_normal (hK184 _ _ ?_)
                refine WC.seq (fun K190 hK191 => ?_)
                refine WC.seq (fun K192 hK193 => ?_)
                refine WC.region ?_
                refine WL.runs 3 [(92, .bool (decide ((q_ : Int) < 0))), (91, .bool (decide ((q_ : Int) < 0))), (90, .int .i64 (q_ : Int))] (fun _ => by kernel_rfl) ?_
                refine WL.know 92 (.bool (decide ((q_ : Int) < 0))) (.bool false) rfl (congrArg Value.bool (by first | (simp; done) | (simp; omega))) ?_
                refine WL.runs 6 [(98, .bool (decide ((q_ : Int) ≥ (times.length : Int)))), (97, .bool (decide ((q_ : Int) ≥ (times.length : Int)))), (96, .bool (decide ((q_ : Int) ≥ (times.length : Int)))), (95, .int .i64 (times.length : Int)), (94, .slice A times.length c), (93, .int .i64 (q_ : Int))] (fun _ => by kernel_rfl) ?_
                refine WL.know 98 (.bool (decide ((q_ : Int) ≥ (times.length : Int)))) (.bool false) rfl (congrArg Value.bool (by first | (simp; done) | (simp; omega))) ?_
                refine WL.runs 2 [(100, .int .i64 (q_ : Int)), (99, .slice Ad42 times.length times.length)] (fun _ => by kernel_rfl) ?_
                have hn198 := own_count (Go.Tw.encI_len _) (by decide) hdu7
                obtain ⟨e194, he195⟩ := get_some (xs := ds7) (i := q_) (by omega)
                obtain ⟨b196, hA197⟩ := own_addr (by decide) (Go.Tw.encI_len _) hdu7 he195
                refine WL.index Ad42 times.length times.length 101 .i64 (q_ : Int) b196 0 q_ 1 (by kernel_rfl) hA197 (by omega) (by omega) q_ (by first | (simp; done) | omega) ?_
                refine WL.load 3 (.pointer (some ⟨b196, q_, none⟩)) (.int .i64 e194) 102 (by kernel_rfl) (run_load1 rfl (by simpa [Nat.add_assoc] using Rd.cell (own_rd hdu7 (Go.Tw.encI_len _) (by decide)) hA197 he195 0 _ rfl)) ?_
                refine WL.runs 3 [(105, .bool (e194 != 0)), (104, .bool (e194 != 0)), (103, .bool (e194 != 0))] (fun _ => by kernel_rfl) ?_
                refine WL.know 105 (.bool (e194 != 0)) (.bool false) rfl (congrArg Value.bool (by have z_ := Option.some.inj (he195.symm.trans hdz_); rw [z_]; rfl)) ?_
                refine WL.runs 2 [(107, .int .i64 (q_ : Int)), (106, .slice A times.length c)] (fun _ => by kernel_rfl) ?_
                obtain ⟨e199, he200⟩ := get_some (xs := times) (i := q_) (by omega)
                obtain ⟨b201, o203, hA202, hc204⟩ := hr.at_ _ _ he200
                refine WL.index A times.length c 108 .i64 (q_ : Int) b201 o203 q_ 1 (by kernel_rfl) hA202 (by omega) (by omega) (o203 + q_) (by first | (simp; done) | omega) ?_
                refine WL.load 3 (.pointer (some ⟨b201, o203 + q_, none⟩)) (.int .i64 e199) 109 (by kernel_rfl) (run_load1 rfl (by simpa [Nat.add_assoc] using hC175.fr.cell (hc204 0 _ rfl) (by simp))) ?_
                refine WL.runs 3 [(112, .bool (decide (e199 > e147))), (111, .bool (decide (e199 > e147))), (110, .int .i64 e147)] (fun _ => by kernel_rfl) ?_
                refine WL.done rfl ?_
                refine QX.then_normal (hK193 _ _ ?_)
                refine WC.know 112 (.bool (decide (e199 > e147))) (.bool false) rfl (congrArg Value.bool (by have z_ := Option.some.inj (he200.symm.trans hta_); simp; omega)) ?_
                refine WC.cond_false rfl ?_
                refine WC.skip ?_
                refine QX.then_normal (hK191 _ _ ?_)
                refine WC.region ?_
                refine WL.runs 4 [(116, .int .i64 (IntKind.i64.wrap ((r : Int) + 1))), (115, .int .i64 (r : Int)), (114, .int .i64 (q_ : Int)), (113, .slice Ad42 times.length times.length)] (fun _ => by kernel_rfl) ?_
                refine WL.recast (show (.int .i64 (IntKind.i64.wrap ((r : Int) + 1)) : Value) = .int .i64 ((r : Int) + 1) from by rw [wrap_in_i64 ((r : Int) + 1) (by omega) (by omega)]) ?_
                have hn209 := own_count (Go.Tw.encI_len _) (by decide) hdu7
                obtain ⟨e205, he206⟩ := get_some (xs := ds7) (i := q_) (by omega)
                obtain ⟨b207, hA208⟩ := own_addr (by decide) (Go.Tw.encI_len _) hdu7 he206
                refine WL.index Ad42 times.length times.length 117 .i64 (q_ : Int) b207 0 q_ 1 (by kernel_rfl) hA208 (by omega) (by omega) q_ (by first | (simp; done) | omega) ?_
                obtain ⟨w210, hr211, hF212, ho214, hC213⟩ := stoE_run Try.prog (Go.Tw.encI_len _) hC175 1 hA208 rfl hdu7 q_ 0 (x := e205) he206 ((r : Int) + 1) [.int .i64 ((r : Int) + 1)] rfl 3 (.int .i64 ((r : Int) + 1)) (q_) rfl rfl rfl (by simp [Nat.add_assoc])
                refine WL.semU (Instr.storeAt 3 (.pointer (some ⟨b207, q_, none⟩)) (.int .i64 ((r : Int) + 1))) (by kernel_rfl) hr211 ?_
                have hf215 := whAt_fr whl35_m173 hF212 (hC175.disj 0 1 rfl rfl (by decide))
                have ho216 := own_fr row169_m173 hF212 (hC175.disj 2 1 rfl rfl (by decide))
                refine WL.done rfl ?_
                refine QX.block_normal ?_
                refine QX.then_normal (hK182 _ _ ?_)
                refine WC.region ?_
                refine WL.runs 1 [(118, .int .i64 (IntKind.i64.wrap ((j : Int) + 1)))] (fun _ => by kernel_rfl) ?_
                refine WL.recast (show (.int .i64 (IntKind.i64.wrap ((j : Int) + 1)) : Value) = .int .i64 ((j : Int) + 1) from by rw [wrap_in_i64 ((j : Int) + 1) (by omega) (by omega)]) ?_
                refine WL.runs 1 [(86, .int .i64 ((j : Int) + 1))] (fun _ => by kernel_rfl) ?_
                refine WL.done rfl ?_
                refine QX.then_normal ?_
                have hC217 := hC213.pick [] [0, 1, 2] rfl rfl
                refine fun a_ ha_ => hK171 _ _ _ ?_ ⟨j + 1, ds7.set q_ ((r : Int) + 1), rfl, rfl, hC217, hf215, ho216, ho214, by omega, by rw [dsK_snoc ds6 he186, ← hds7, hkq_]; rfl⟩ a_ (ha_.weaken (sub_of ⟨rfl, rfl, rfl, rfl, rfl, rfl, rfl, rfl, rfl, rfl, rfl, rfl, rfl, trivial⟩))
                omega
              · -- (j : Int) < ((dueK m6 e147).length : Int): false
                have t180 : ((dueK m6 e147).length : Int) ≤ (j : Int) := by have q_ := of_decide_eq_false t180b; omega
                refine WC.cond_false rfl ?_
                refine WC.exit ?_
                refine QX.then_exit ?_
                refine QX.then_exit ?_
                refine QX.block_hit ?_
                refine QX.block_normal ?_
                refine QX.then_normal (hK144 _ _ ?_)
                refine WC.region ?_
                refine WL.runs 1 [(119, .int .i64 (IntKind.i64.wrap ((r : Int) + 1)))] (fun _ => by kernel_rfl) ?_
                refine WL.recast (show (.int .i64 (IntKind.i64.wrap ((r : Int) + 1)) : Value) = .int .i64 ((r : Int) + 1) from by rw [wrap_in_i64 ((r : Int) + 1) (by omega) (by omega)]) ?_
                refine WL.runs 1 [(77, .int .i64 ((r : Int) + 1))] (fun _ => by kernel_rfl) ?_
                refine WL.done rfl ?_
                refine QX.then_normal ?_
                have hC218 := hC175.pick [] [0, 1] rfl rfl
                refine fun a_ ha_ => hK133 _ _ _ ?_ ⟨r + 1, F156, (canL m6 (dueK m6 e147)), (dueH h6 e147), (dsK ds6 (dueK m6 e147) ((r : Int) + 1)), rfl, rfl, hC218, whl35_m173, (by have z_ := hdu7; rw [hds7, List.take_of_length_le (by omega)] at z_; exact z_), by omega, hon.step he148, (dueH_ok hon.keys hh6 hhm6).1, (dueH_ok hon.keys hh6 hhm6).2, Nat.le_trans (canL_len2 _ _) hml6⟩ a_ (ha_.weaken (sub_of ⟨rfl, rfl, rfl, rfl, rfl, rfl, rfl, rfl, trivial⟩))
                omega
            · -- (r : Int) < (nows.length : Int): false
              have t142 : (nows.length : Int) ≤ (r : Int) := by have q_ := of_decide_eq_false t142b; omega
              refine WC.cond_false rfl ?_
              refine WC.exit ?_
              refine QX.then_exit ?_
              refine QX.then_exit ?_
              refine QX.block_hit ?_
              refine QX.then_normal (hK129 _ _ ?_)
              refine WC.seq (fun K219 hK220 => ?_)
              refine WC.seq (fun K221 hK222 => ?_)
              refine WC.region ?_
              refine WL.runs 3 [(122, .int .i64 0), (121, .int .i64 (times.length : Int)), (120, .slice A times.length c)] (fun _ => by kernel_rfl) ?_
              refine WL.done rfl ?_
              refine QX.then_normal (hK222 _ _ ?_)
              refine WC.block ?_
              refine WC.loop (fun m_ E_ w_ => ∃ (k : Nat), m_ = times.length - k ∧ E_ = [(0, .int .i64 slots), (1, .slice A times.length c), (2, .slice B nows.length c2), (7, .pointer (some ⟨p28, 0, none⟩)), (9, .slice Ad42 times.length times.length), (120, .slice A times.length c), (121, .int .i64 (times.length : Int)), (122, .int .i64 (k : Int))] ∧ Cx w [] w_ [] [F6, blk (.slice Ad42 times.length times.length)] ∧ whAt w_ F6 p28 (Int.toNat slots) m6 h6 ∧ World.ownsRow w_ 0 3 1 (.slice Ad42 times.length times.length) times.length (ds6.flatMap (Go.Tw.encI .i64)) ∧ (k ≤ times.length)) ⟨_, _, ⟨0, rfl, rfl, hC137, hwh6, hdu6, Nat.zero_le _⟩, sub_of ⟨rfl, rfl, rfl, rfl, rfl, rfl, rfl, rfl, trivial⟩⟩ (fun m226 E_ w227 K223 hK224 hI225 => ?_)
              obtain ⟨k, rfl, rfl, hC228, whl35_m226, due_m226, hk9⟩ := hI225
              refine WC.seq (fun K229 hK230 => ?_)
              refine WC.region ?_
              refine WL.runs 1 [(123, .bool (decide ((k : Int) < (times.length : Int))))] (fun _ => by kernel_rfl) ?_
              refine WL.done rfl ?_
              refine QX.then_normal (hK230 _ _ ?_)
              refine WC.seq (fun K231 hK232 => ?_)
              refine WC.test_at 123 (decide ((k : Int) < (times.length : Int))) rfl (fun t233b => ?_) (fun t233b => ?_)
              · -- (k : Int) < (times.length : Int): true
                have t233 : (k : Int) < (times.length : Int) := by have q_ := of_decide_eq_true t233b; omega
                refine WC.cond_true rfl ?_
                refine WC.skip ?_
                refine QX.then_normal (hK232 _ _ ?_)
                refine WC.seq (fun K234 hK235 => ?_)
                refine WC.block ?_
                refine WC.seq (fun K236 hK237 => ?_)
                refine WC.region ?_
                refine WL.runs 1 [(124, .int .i64 (k : Int))] (fun _ => by kernel_rfl) ?_
                obtain ⟨e238, he239⟩ := get_some (xs := times) (i := k) (by omega)
                obtain ⟨b240, o242, hA241, hc243⟩ := hr.at_ _ _ he239
                refine WL.index A times.length c 125 .i64 (k : Int) b240 o242 k 1 (by kernel_rfl) hA241 (by omega) (by omega) (o242 + k) (by first | (simp; done) | omega) ?_
                refine WL.load 3 (.pointer (some ⟨b240, o242 + k, none⟩)) (.int .i64 e238) 126 (by kernel_rfl) (run_load1 rfl (by simpa [Nat.add_assoc] using hC228.fr.cell (hc243 0 _ rfl) (by simp))) ?_
                refine WL.runs 2 [(17, .int .i64 e238), (16, .int .i64 (k : Int))] (fun _ => by kernel_rfl) ?_
                refine WL.done rfl ?_
                refine QX.then_normal (hK237 _ _ ?_)
                refine WC.seq (fun K244 hK245 => ?_)
                refine WC.region ?_
                refine WL.runs 1 [(18, .int .i64 0)] (fun _ => by kernel_rfl) ?_
                refine WL.done rfl ?_
                refine QX.then_normal (hK245 _ _ ?_)
                refine WC.seq (fun K246 hK247 => ?_)
                refine WC.seq (fun K248 hK249 => ?_)
                refine WC.region ?_
                refine WL.runs 3 [(129, .int .i64 (IntKind.i64.wrap ((nows.length : Int) - 1))), (128, .int .i64 (nows.length : Int)), (127, .slice B nows.length c2)] (fun _ => by kernel_rfl) ?_
                refine WL.recast (show (.int .i64 (IntKind.i64.wrap ((nows.length : Int) - 1)) : Value) = .int .i64 ((nows.length : Int) - 1) from by rw [wrap_in_i64 ((nows.length : Int) - 1) (by omega) (by omega)]) ?_
                refine WL.runs 1 [(19, .int .i64 ((nows.length : Int) - 1))] (fun _ => by kernel_rfl) ?_
                refine WL.done rfl ?_
                refine QX.then_normal (hK249 _ _ ?_)
                refine WC.block ?_
                refine WC.loop (fun m_ E_ w_ => ∃ (q : Nat) (wn : Int), m_ = q + 1 ∧ E_ = [(0, .int .i64 slots), (1, .slice A times.length c), (2, .slice B nows.length c2), (7, .pointer (some ⟨p28, 0, none⟩)), (9, .slice Ad42 times.length times.length), (16, .int .i64 (k : Int)), (17, .int .i64 e238), (18, .int .i64 wn), (19, .int .i64 ((q : Int) - 1)), (120, .slice A times.length c), (121, .int .i64 (times.length : Int)), (122, .int .i64 (k : Int))] ∧ Cx w [] w_ [] [F6, blk (.slice Ad42 times.length times.length)] ∧ whAt w_ F6 p28 (Int.toNat slots) m6 h6 ∧ World.ownsRow w_ 0 3 1 (.slice Ad42 times.length times.length) times.length (ds6.flatMap (Go.Tw.encI .i64)) ∧ (q ≤ nows.length ∧ wn = wantL (nows.drop q) (q : Int) e238)) ⟨_, _, ⟨nows.length, 0, rfl, rfl, hC228, whl35_m226, due_m226, Nat.le_refl _, by rw [List.drop_length]; rfl⟩, sub_of ⟨rfl, rfl, rfl, rfl, rfl, rfl, rfl, rfl, rfl, rfl, rfl, rfl, trivial⟩⟩ (fun m253 E_ w254 K250 hK251 hI252 => ?_)
                obtain ⟨q, wn, rfl, rfl, hC255, whl35_m253, due_m253, hq, hwn⟩ := hI252
                refine WC.seq (fun K256 hK257 => ?_)
                refine WC.seq (fun K258 hK259 => ?_)
                refine WC.region ?_
                refine WL.runs 2 [(131, .bool (decide (((q : Int) - 1) ≥ 0))), (130, .int .i64 ((q : Int) - 1))] (fun _ => by kernel_rfl) ?_
                refine WL.done rfl ?_
                refine QX.then_normal (hK259 _ _ ?_)
                refine WC.test_at 131 (decide (((q : Int) - 1) ≥ 0)) rfl (fun t260b => ?_) (fun t260b => ?_)
                · -- ((q : Int) - 1) ≥ 0: true
                  have t260 : (0 : Int) ≤ ((q : Int) - 1) := by have q_ := of_decide_eq_true t260b; omega
                  refine WC.cond_true rfl ?_
                  refine WC.skip ?_
                  refine QX.then_normal (hK257 _ _ ?_)
                  refine WC.seq (fun K261 hK262 => ?_)
                  refine WC.block ?_
                  refine WC.seq (fun K263 hK264 => ?_)
                  refine WC.region ?_
                  refine WL.runs 3 [(136, .int .i64 ((q : Int) - 1)), (135, .slice B nows.length c2), (134, .int .i64 e238)] (fun _ => by kernel_rfl) ?_
                  obtain ⟨e265, he266⟩ := get_some (xs := nows) (i := ((q : Int) - 1).toNat) (by omega)
                  obtain ⟨b267, o269, hA268, hc270⟩ := hr2.at_ _ _ he266
                  refine WL.index B nows.length c2 137 .i64 ((q : Int) - 1) b267 o269 (((q : Int) - 1).toNat) 1 (by kernel_rfl) hA268 (by omega) (by omega) (o269 + (((q : Int) - 1).toNat)) (by first | (simp; done) | omega) ?_
                  refine WL.load 3 (.pointer (some ⟨b267, o269 + (((q : Int) - 1).toNat), none⟩)) (.int .i64 e265) 138 (by kernel_rfl) (run_load1 rfl (by simpa [Nat.add_assoc] using hC255.fr.cell (hc270 0 _ rfl) (by simp))) ?_
                  refine WL.runs 1 [(139, .bool (decide (e238 ≤ e265)))] (fun _ => by kernel_rfl) ?_
                  refine WL.done rfl ?_
                  refine QX.then_normal (hK264 _ _ ?_)
                  refine WC.test_at 139 (decide (e238 ≤ e265)) rfl (fun t271b => ?_) (fun t271b => ?_)
                  · -- e238 ≤ e265: true
                    have t271 : e238 ≤ e265 := by have q_ := of_decide_eq_true t271b; omega
                    refine WC.cond_true rfl ?_
                    refine WC.region ?_
                    refine WL.runs 2 [(141, .int .i64 (IntKind.i64.wrap (((q : Int) - 1) + 1))), (140, .int .i64 ((q : Int) - 1))] (fun _ => by kernel_rfl) ?_
                    refine WL.recast (show (.int .i64 (IntKind.i64.wrap (((q : Int) - 1) + 1)) : Value) = .int .i64 (((q - 1 : Nat) : Int) + 1) from congrArg (Value.int .i64) (by rw [wrap_in_i64 _ (by omega) (by omega)]; omega)) ?_
                    refine WL.runs 1 [(18, .int .i64 (((q - 1 : Nat) : Int) + 1))] (fun _ => by kernel_rfl) ?_
                    refine WL.done rfl ?_
                    refine QX.block_normal ?_
                    refine QX.then_normal (hK262 _ _ ?_)
                    refine WC.region ?_
                    refine WL.runs 2 [(133, .int .i64 (IntKind.i64.wrap (((q : Int) - 1) - 1))), (132, .int .i64 ((q : Int) - 1))] (fun _ => by kernel_rfl) ?_
                    refine WL.recast (show (.int .i64 (IntKind.i64.wrap (((q : Int) - 1) - 1)) : Value) = .int .i64 (((q - 1 : Nat) : Int) - 1) from congrArg (Value.int .i64) (by rw [wrap_in_i64 _ (by omega) (by omega)]; omega)) ?_
                    refine WL.runs 1 [(19, .int .i64 (((q - 1 : Nat) : Int) - 1))] (fun _ => by kernel_rfl) ?_
                    refine WL.done rfl ?_
                    refine QX.then_normal ?_
                    have hC272 := hC255.pick [] [0, 1] rfl rfl
                    have hw9_ := wantL_drop (a := e238) (show nows[q - 1]? = some _ from by have z_ := he266; rw [show ((q : Int) - 1).toNat = q - 1 from by omega] at z_; exact z_)
                    rw [show q - 1 + 1 = q from by omega, show ((q - 1 : Nat) : Int) + 1 = (q : Int) from by omega] at hw9_
                    refine fun a_ ha_ => hK251 _ _ _ ?_ ⟨(q - 1), (((q - 1 : Nat) : Int) + 1), rfl, rfl, hC272, whl35_m253, due_m253, by omega, by rw [hw9_, if_pos (by simpa using t271b)]; omega⟩ a_ (ha_.weaken (sub_of ⟨rfl, rfl, rfl, rfl, rfl, rfl, rfl, rfl, rfl, rfl, rfl, rfl, trivial⟩))
                    omega
                  · -- e238 ≤ e265: false
                    have t271 : e265 < e238 := by have q_ := of_decide_eq_false t271b; omega
                    refine WC.cond_false rfl ?_
                    refine WC.skip ?_
                    refine QX.block_normal ?_
                    refine QX.then_normal (hK262 _ _ ?_)
                    refine WC.region ?_
                    refine WL.runs 2 [(133, .int .i64 (IntKind.i64.wrap (((q : Int) - 1) - 1))), (132, .int .i64 ((q : Int) - 1))] (fun _ => by kernel_rfl) ?_
                    refine WL.recast (show (.int .i64 (IntKind.i64.wrap (((q : Int) - 1) - 1)) : Value) = .int .i64 (((q - 1 : Nat) : Int) - 1) from congrArg (Value.int .i64) (by rw [wrap_in_i64 _ (by omega) (by omega)]; omega)) ?_
                    refine WL.runs 1 [(19, .int .i64 (((q - 1 : Nat) : Int) - 1))] (fun _ => by kernel_rfl) ?_
                    refine WL.done rfl ?_
                    refine QX.then_normal ?_
                    have hC273 := hC255.pick [] [0, 1] rfl rfl
                    have hw9_ := wantL_drop (a := e238) (show nows[q - 1]? = some _ from by have z_ := he266; rw [show ((q : Int) - 1).toNat = q - 1 from by omega] at z_; exact z_)
                    rw [show q - 1 + 1 = q from by omega, show ((q - 1 : Nat) : Int) + 1 = (q : Int) from by omega] at hw9_
                    refine fun a_ ha_ => hK251 _ _ _ ?_ ⟨(q - 1), wn, rfl, rfl, hC273, whl35_m253, due_m253, by omega, by rw [hw9_, if_neg (by simpa using t271b)]; exact hwn⟩ a_ (ha_.weaken (sub_of ⟨rfl, rfl, rfl, rfl, rfl, rfl, rfl, rfl, rfl, rfl, rfl, rfl, trivial⟩))
                    omega
                · -- ((q : Int) - 1) ≥ 0: false
                  have t260 : ((q : Int) - 1) < 0 := by have q_ := of_decide_eq_false t260b; omega
                  refine WC.cond_false rfl ?_
                  refine WC.exit ?_
                  refine QX.then_exit ?_
                  refine QX.then_exit ?_
                  refine QX.block_hit ?_
                  refine QX.then_normal (hK247 _ _ ?_)
                  refine WC.seq (fun K274 hK275 => ?_)
                  refine WC.region ?_
                  refine WL.runs 2 [(143, .int .i64 (k : Int)), (142, .slice Ad42 times.length times.length)] (fun _ => by kernel_rfl) ?_
                  have hn280 := own_count (Go.Tw.encI_len _) (by decide) due_m253
                  obtain ⟨e276, he277⟩ := get_some (xs := ds6) (i := k) (by omega)
                  obtain ⟨b278, hA279⟩ := own_addr (by decide) (Go.Tw.encI_len _) due_m253 he277
                  refine WL.index Ad42 times.length times.length 144 .i64 (k : Int) b278 0 k 1 (by kernel_rfl) hA279 (by omega) (by omega) k (by first | (simp; done) | omega) ?_
                  refine WL.load 3 (.pointer (some ⟨b278, k, none⟩)) (.int .i64 e276) 145 (by kernel_rfl) (run_load1 rfl (by simpa [Nat.add_assoc] using Rd.cell (own_rd due_m253 (Go.Tw.encI_len _) (by decide)) hA279 he277 0 _ rfl)) ?_
                  refine WL.runs 3 [(148, .bool (e276 != wn)), (147, .bool (e276 != wn)), (146, .int .i64 wn)] (fun _ => by kernel_rfl) ?_
                  refine WL.test_at 148 (e276 != wn) rfl (fun t281b => ?_) (fun t281b => ?_)
                  · -- e276 ≠ wn: true
                    have t281 : e276 ≠ wn := by simpa using t281b
                    refine WL.runs 2 [(150, .int .i64 (k : Int)), (149, .slice Ad42 times.length times.length)] (fun _ => by kernel_rfl) ?_
                    have hn286 := own_count (Go.Tw.encI_len _) (by decide) due_m253
                    obtain ⟨e282, he283⟩ := get_some (xs := ds6) (i := k) (by omega)
                    obtain ⟨b284, hA285⟩ := own_addr (by decide) (Go.Tw.encI_len _) due_m253 he283
                    refine WL.index Ad42 times.length times.length 151 .i64 (k : Int) b284 0 k 1 (by kernel_rfl) hA285 (by omega) (by omega) k (by first | (simp; done) | omega) ?_
                    refine WL.load 3 (.pointer (some ⟨b284, k, none⟩)) (.int .i64 e282) 152 (by kernel_rfl) (run_load1 rfl (by simpa [Nat.add_assoc] using Rd.cell (own_rd due_m253 (Go.Tw.encI_len _) (by decide)) hA285 he283 0 _ rfl)) ?_
                    refine WL.runs 2 [(154, .bool (e282 != (-1))), (153, .bool (e282 != (-1)))] (fun _ => by kernel_rfl) ?_
                    refine WL.done rfl ?_
                    refine QX.then_normal (hK275 _ _ ?_)
                    refine WC.test_at 154 (e282 != (-1)) rfl (fun t287b => ?_) (fun t287b => ?_)
                    · -- e282 ≠ (-1): true
                      have t287 : e282 ≠ (-1) := by simpa using t287b
                      refine WC.cond_true rfl ?_
                      refine WC.seq (fun K288 hK289 => ?_)
                      refine WC.region ?_
                      refine WL.runs 1 [(6, .bool false)] (fun _ => by kernel_rfl) ?_
                      refine WL.done rfl ?_
                      refine QX.then_normal (hK289 _ _ ?_)
                      refine WC.ret ?_
                      refine QX.block_ret ?_
                      refine QX.then_ret ?_
                      refine QX.then_ret ?_
                      refine QX.block_ret ?_
                      refine QX.then_ret ?_
                      refine (hret _ _ _ rfl ?_).1
                      clear hN hret hret' hK289 hK275 hK259 hK257 hK249 hK247 hK245 hK237 hK235 hK232 hK230 hK222 hK220 hK141 hK139 hK131 hK129 hK63 hK61 hK53 hK51 hK41 hK39 hK37 hK27 hK13 hK11 hK6 hK4 hK2
                      exfalso
                      have hr9_ : r = nows.length := by omega
                      subst hr9_
                      have hq9_ : q = 0 := by omega
                      subst hq9_
                      have hw9_ : wn = wantL nows 0 e238 := hwn
                      have he9_ := Option.some.inj (he277.symm.trans he283)
                      rcases hon.end_ he239 he277 with z_ | z_ <;> omega
                    · -- e282 ≠ (-1): false
                      have t287 : e282 = (-1) := by simpa using t287b
                      refine WC.cond_false rfl ?_
                      refine WC.skip ?_
                      refine QX.block_normal ?_
                      refine QX.then_normal (hK235 _ _ ?_)
                      refine WC.region ?_
                      refine WL.runs 1 [(155, .int .i64 (IntKind.i64.wrap ((k : Int) + 1)))] (fun _ => by kernel_rfl) ?_
                      refine WL.recast (show (.int .i64 (IntKind.i64.wrap ((k : Int) + 1)) : Value) = .int .i64 ((k : Int) + 1) from by rw [wrap_in_i64 ((k : Int) + 1) (by omega) (by omega)]) ?_
                      refine WL.runs 1 [(122, .int .i64 ((k : Int) + 1))] (fun _ => by kernel_rfl) ?_
                      refine WL.done rfl ?_
                      refine QX.then_normal ?_
                      have hC290 := hC255.pick [] [0, 1] rfl rfl
                      refine fun a_ ha_ => hK224 _ _ _ ?_ ⟨k + 1, rfl, rfl, hC290, whl35_m253, due_m253, by omega⟩ a_ (ha_.weaken (sub_of ⟨rfl, rfl, rfl, rfl, rfl, rfl, rfl, rfl, trivial⟩))
                      omega
                  · -- e276 ≠ wn: false
                    have t281 : e276 = wn := by simpa using t281b
                    refine WL.runs 6 [(154, .bool false), (153, undef), (152, undef), (151, undef), (150, undef), (149, undef)] (fun _ => by kernel_rfl) ?_
                    refine WL.done rfl ?_
                    refine QX.then_normal (hK275 _ _ ?_)
                    refine WC.cond_false rfl ?_
                    refine WC.skip ?_
                    refine QX.block_normal ?_
                    refine QX.then_normal (hK235 _ _ ?_)
                    refine WC.region ?_
                    refine WL.runs 1 [(155, .int .i64 (IntKind.i64.wrap ((k : Int) + 1)))] (fun _ => by kernel_rfl) ?_
                    refine WL.recast (show (.int .i64 (IntKind.i64.wrap ((k : Int) + 1)) : Value) = .int .i64 ((k : Int) + 1) from by rw [wrap_in_i64 ((k : Int) + 1) (by omega) (by omega)]) ?_
                    refine WL.runs 1 [(122, .int .i64 ((k : Int) + 1))] (fun _ => by kernel_rfl) ?_
                    refine WL.done rfl ?_
                    refine QX.then_normal ?_
                    have hC291 := hC255.pick [] [0, 1] rfl rfl
                    refine fun a_ ha_ => hK224 _ _ _ ?_ ⟨k + 1, rfl, rfl, hC291, whl35_m253, due_m253, by omega⟩ a_ (ha_.weaken (sub_of ⟨rfl, rfl, rfl, rfl, rfl, rfl, rfl, rfl, trivial⟩))
                    omega
              · -- (k : Int) < (times.length : Int): false
                have t233 : (times.length : Int) ≤ (k : Int) := by have q_ := of_decide_eq_false t233b; omega
                refine WC.cond_false rfl ?_
                refine WC.exit ?_
                refine QX.then_exit ?_
                refine QX.then_exit ?_
                refine QX.block_hit ?_
                refine QX.then_normal (hK220 _ _ ?_)
                refine WC.seq (fun K292 hK293 => ?_)
                refine WC.region ?_
                refine WL.runs 1 [(6, .bool true)] (fun _ => by kernel_rfl) ?_
                refine WL.done rfl ?_
                refine QX.then_normal (hK293 _ _ ?_)
                refine WC.ret ?_
                refine (hret _ _ _ rfl ?_).1
                clear hN hret hret' hK293 hK232 hK230 hK222 hK220 hK141 hK139 hK131 hK129 hK63 hK61 hK53 hK51 hK41 hK39 hK37 hK27 hK13 hK11 hK6 hK4 hK2
                exact ⟨rfl, hC228.fr⟩

end Go.Proofs.Ytkafccgbagbncaa
