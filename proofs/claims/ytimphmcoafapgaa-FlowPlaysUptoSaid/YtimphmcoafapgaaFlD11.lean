/- Contracts of functions of the program, each proved by a walk through its code; conditions stand in the statements. -/
import Derived.Test.YtimphmcoafapgaaFlC11
namespace Go.Proofs.Ytimphmcoafapgaa
set_option linter.unusedSimpArgs false
set_option linter.unusedVariables false
set_option linter.unusedSectionVars false
open Go Go.RowKit Go.Tw
set_option linter.unusedVariables false
set_option maxRecDepth 20000
theorem lookL_none_of {κ β : Type} [DecidableEq κ] {k : κ} : ∀ {m : List (κ × β)}, (∀ p ∈ m, p.1 ≠ k) → lookL m k = none
  | [], _ => rfl
  | (a, b) :: r, h => by
    have h1 : a ≠ k := h (a, b) (by simp)
    simp only [lookL, if_neg h1]
    exact lookL_none_of (fun p hp => h p (by simp [hp]))
theorem putL_new_of {κ β : Type} [DecidableEq κ] {k : κ} {v : β} : ∀ {m : List (κ × β)}, (∀ p ∈ m, p.1 ≠ k) → putL m k v = m ++ [(k, v)]
  | [], _ => rfl
  | (a, b) :: r, h => by
    have h1 : a ≠ k := h (a, b) (by simp)
    simp only [putL, if_neg h1]
    rw [putL_new_of (fun p hp => h p (by simp [hp]))]; rfl
theorem lookL_mem {κ β : Type} [DecidableEq κ] {k : κ} {v : β} : ∀ {m : List (κ × β)}, (m.map (·.1)).Nodup → (k, v) ∈ m → lookL m k = some v
  | [], _, h => by simp at h
  | (a, b) :: r, hn, h => by
    simp only [List.map_cons, List.nodup_cons] at hn
    rcases List.mem_cons.1 h with h1 | h1
    · cases h1; simp [lookL]
    · have : a ≠ k := fun e => hn.1 (by rw [e]; exact List.mem_map.2 ⟨_, h1, rfl⟩)
      simp only [lookL, if_neg this]
      exact lookL_mem hn.2 h1
theorem mem_putL {κ β : Type} [DecidableEq κ] {k : κ} {v : β} {x : κ × β} : ∀ {m : List (κ × β)}, (m.map (·.1)).Nodup → (x ∈ putL m k v ↔ x = (k, v) ∨ (x ∈ m ∧ x.1 ≠ k))
  | [], _ => by simp [putL]
  | (a, b) :: r, hn => by
    simp only [List.map_cons, List.nodup_cons] at hn
    by_cases h : a = k
    · simp only [putL, if_pos h, List.mem_cons]
      constructor
      · rintro (h1 | h1)
        · exact .inl h1
        · refine .inr ⟨.inr h1, fun e => hn.1 ?_⟩
          rw [h, ← e]; exact List.mem_map.2 ⟨_, h1, rfl⟩
      · rintro (h1 | ⟨h1 | h1, h2⟩)
        · exact .inl h1
        · exact absurd (by rw [h1]; exact h) h2
        · exact .inr h1
    · simp only [putL, if_neg h, List.mem_cons, mem_putL (m := r) hn.2]
      constructor
      · rintro (h1 | h1 | ⟨h1, h2⟩)
        · exact .inr ⟨.inl h1, by rw [h1]; exact h⟩
        · exact .inl h1
        · exact .inr ⟨.inr h1, h2⟩
      · rintro (h1 | ⟨h1 | h1, h2⟩)
        · exact .inr (.inl h1)
        · exact .inl h1
        · exact .inr (.inr ⟨h1, h2⟩)
theorem put_new_of {T T' : Tb} {f : Flow} {dip ep now : Int} {o : Ent} {fd : Bool} {er : Int} (h : PutRel T f dip ep now T' o fd er) (h1 : goodF f = true) (h2 : goodTime now = true) (h3 : lookL T.m f = none) (h4 : T.um ≠ 0) (h5 : T.uh < T.um) : T' = ⟨putL T.m f ⟨f, dip, ep, false, false, now⟩, T.th, T.tm, T.uh + 1, T.um⟩ ∧ o = zeroE ∧ fd = false ∧ er = 0 := by
  cases h with
  | form a => rw [h1] at a; cases a
  | range a b => rw [h2] at b; cases b
  | old e a b c => rw [h3] at c; cases c
  | empty a b c d => exact absurd d h4
  | new a b c d e => exact ⟨rfl, rfl, rfl, rfl⟩
  | full o g a b c d e f => exact absurd h5 e
theorem put_full_of {T T' : Tb} {f : Flow} {dip ep now : Int} {o : Ent} {fd : Bool} {er : Int} (h : PutRel T f dip ep now T' o fd er) (h1 : goodF f = true) (h2 : goodTime now = true) (h3 : lookL T.m f = none) (h4 : T.um ≠ 0) (h5 : ¬ T.uh < T.um) : ∃ g, Best T.m g o ∧ T' = ⟨putL (rem1 T o.flow).m f ⟨f, dip, ep, false, false, now⟩, (rem1 T o.flow).th, (rem1 T o.flow).tm, (rem1 T o.flow).uh + 1, (rem1 T o.flow).um⟩ ∧ fd = true ∧ er = 0 := by
  cases h with
  | form a => rw [h1] at a; cases a
  | range a b => rw [h2] at b; cases b
  | old e a b c => rw [h3] at c; cases c
  | empty a b c d => exact absurd d h4
  | new a b c d e => exact absurd e h5
  | full o g a b c d e f => exact ⟨_, f, rfl, rfl, rfl⟩
def exF (n : Int) : Flow := ⟨6, 134744072, n, 16843009, 80⟩
def al1 : Tb := ⟨[(exF 1, ⟨exF 1, 7, 0, false, false, 0⟩)], 0, 1, 1, 2⟩
def al2 : Tb := ⟨[(exF 1, ⟨exF 1, 7, 0, false, false, 0⟩), (exF 2, ⟨exF 2, 7, 0, false, false, 1⟩)], 0, 1, 2, 2⟩
def al3 : Tb := ⟨[(exF 2, ⟨exF 2, 7, 0, false, false, 1⟩), (exF 3, ⟨exF 3, 8, 5, false, false, 2⟩)], 0, 1, 2, 2⟩
theorem al_put1 {T' : Tb} {o : Ent} {fd : Bool} {er : Int} (h : PutRel ⟨[], 0, 1, 0, 2⟩ (exF 1) 7 0 0 T' o fd er) : T' = al1 ∧ o = zeroE ∧ fd = false ∧ er = 0 := put_new_of h (by decide) (by decide) rfl (by decide) (by decide)
theorem al_put2 {T' : Tb} {o : Ent} {fd : Bool} {er : Int} (h : PutRel al1 (exF 2) 7 0 1 T' o fd er) : T' = al2 ∧ o = zeroE ∧ fd = false ∧ er = 0 := put_new_of h (by decide) (by decide) (by decide) (by decide) (by decide)
theorem al_put3 {T' : Tb} {o : Ent} {fd : Bool} {er : Int} (h : PutRel al2 (exF 3) 8 5 2 T' o fd er) : T' = al3 ∧ o = ⟨exF 1, 7, 0, false, false, 0⟩ ∧ fd = true ∧ er = 0 := by
  obtain ⟨g, hb, rfl, rfl, rfl⟩ := put_full_of h (by decide) (by decide) (by decide) (by decide) (by decide)
  have ho : o = ⟨exF 1, 7, 0, false, false, 0⟩ := by
    cases g with
    | false =>
      simp only [Best, Bool.false_eq_true, if_false] at hb
      exact absurd (hb.2 (exF 1, ⟨exF 1, 7, 0, false, false, 0⟩) (by simp [al2])) (by simp)
    | true =>
      simp only [Best, if_true] at hb
      obtain ⟨⟨q, hq, rfl⟩, _, h3⟩ := hb
      simp only [al2, List.mem_cons, List.not_mem_nil, or_false] at hq
      rcases hq with rfl | rfl
      · rfl
      · exact absurd (h3 (exF 1, ⟨exF 1, 7, 0, false, false, 0⟩) (by simp [al2]) rfl) (by decide)
  subst ho
  exact ⟨rfl, rfl, rfl, rfl⟩
def entO (now : Int) (i : Nat) : Ent := ⟨exF i, 1, 1, false, false, now + i⟩
def mO (now : Int) (i : Nat) : List (Flow × Ent) := (List.range i).map fun j : Nat => (exF j, entO now j)
def tbO (now : Int) (n i : Nat) : Tb := ⟨mO now i, 0, 1, i, n⟩
theorem mem_mO {now : Int} {i : Nat} {p : Flow × Ent} : p ∈ mO now i ↔ ∃ j : Nat, j < i ∧ p = (exF j, entO now j) := by
  simp only [mO, List.mem_map, List.mem_range]
  constructor
  · rintro ⟨j, hj, rfl⟩; exact ⟨j, hj, rfl⟩
  · rintro ⟨j, hj, rfl⟩; exact ⟨j, hj, rfl⟩
theorem exF_inj {a b : Int} (h : exF a = exF b) : a = b := congrArg Flow.sport h
theorem mO_nodup (now : Int) (i : Nat) : ((mO now i).map (·.1)).Nodup := by
  have e : (mO now i).map (·.1) = (List.range i).map (fun j : Nat => exF j) := by simp [mO, Function.comp_def]
  rw [e]
  exact List.Pairwise.map _ (fun a b hab he => hab (by have := exF_inj he; omega)) List.nodup_range
theorem exF_good {n : Int} (h0 : 0 ≤ n) (h1 : n ≤ 65535) : goodF (exF n) = true := by
  simp [goodF, exF, h0, h1]
theorem put_O {now : Int} {n i : Nat} {T' : Tb} {o : Ent} {fd : Bool} {er : Int} (hi : i < n) (hn : n ≤ 40) (h0 : 0 ≤ now) (h1 : now ≤ 549755813888) (h : PutRel (tbO now n i) (exF i) 1 1 (now + i) T' o fd er) : T' = tbO now n (i + 1) ∧ o = zeroE ∧ fd = false ∧ er = 0 := by
  have hne : ∀ p ∈ mO now i, p.1 ≠ exF i := fun p hp => by
    obtain ⟨j, hj, rfl⟩ := mem_mO.1 hp
    exact fun e => by have := exF_inj e; omega
  obtain ⟨rfl, h2⟩ := put_new_of h (exF_good (by omega) (by omega)) (by simp [goodTime]; omega) (lookL_none_of hne) (by simp [tbO]; omega) (by simp [tbO]; omega)
  refine ⟨?_, h2⟩
  have e1 : putL (tbO now n i).m (exF i) ⟨exF i, 1, 1, false, false, now + i⟩ = mO now (i + 1) := by
    show putL (mO now i) (exF i) _ = _
    rw [putL_new_of hne]
    unfold mO
    rw [List.range_succ, List.map_append]; rfl
  rw [e1]
  show (⟨mO now (i + 1), 0, 1, (i : Int) + 1, n⟩ : Tb) = ⟨mO now (i + 1), 0, 1, ((i + 1 : Nat) : Int), n⟩
  congr 1
def m2O (now : Int) (n q : Nat) : List (Flow × Ent) := putL (mO now n) (exF q) ⟨exF q, 1, 1, false, false, now + 100⟩
theorem touch_O {now : Int} {n q : Nat} (hq : q < n) (h0 : 0 ≤ now) (h1 : now ≤ 549755813888) : touchT (tbO now n n) (exF q) 2 (now + 100) = (⟨m2O now n q, 0, 1, n, n⟩, true) := by
  have hl : lookL (tbO now n n).m (exF q) = some (entO now q) := lookL_mem (mO_nodup now n) (mem_mO.2 ⟨q, hq, rfl⟩)
  have ht : goodTime (now + 100) = true := by simp [goodTime]; omega
  have hp : (exF q).proto = 6 := rfl
  have b1 : Go.bits .and .i64 2 2 = 2 := by decide
  have b2 : Go.bits .and .i64 2 5 = 0 := by decide
  unfold touchT
  rw [hl]
  simp [ht, hp, b1, b2, tbO, m2O, entO]
theorem mem_m2O {now : Int} {n q : Nat} {p : Flow × Ent} : p ∈ m2O now n q ↔ p = (exF q, ⟨exF q, 1, 1, false, false, now + 100⟩) ∨ ∃ j : Nat, j < n ∧ j ≠ q ∧ p = (exF j, entO now j) := by
  unfold m2O
  rw [mem_putL (mO_nodup now n), mem_mO]
  constructor
  · rintro (h | ⟨⟨j, hj, rfl⟩, h2⟩)
    · exact .inl h
    · exact .inr ⟨j, hj, fun e => h2 (by rw [e]), rfl⟩
  · rintro (h | ⟨j, hj, hne, rfl⟩)
    · exact .inl h
    · exact .inr ⟨⟨j, hj, rfl⟩, fun e => hne (by have := exF_inj e; omega)⟩
theorem best_O {now : Int} {n q : Nat} (hn : n ≤ 40) (hq : q < n) {g : Bool} {o : Ent} (h : Best (m2O now n q) g o) (first : Nat) (hf : first = if q = 0 ∧ 1 < n then 1 else 0) : o.flow = exF first := by
  cases g with
  | false =>
    simp only [Best, Bool.false_eq_true, if_false] at h
    exact absurd (h.2 _ (mem_m2O.2 (.inl rfl))) (by simp)
  | true =>
    simp only [Best, if_true] at h
    obtain ⟨⟨x, hx, rfl⟩, _, h3⟩ := h
    by_cases h1 : n = 1
    · have hq0 : q = 0 := by omega
      subst hq0
      rw [if_neg (by omega)] at hf
      subst hf
      rcases mem_m2O.1 hx with rfl | ⟨j, hj, hne, rfl⟩
      · rfl
      · exfalso; omega
    · have hfq : first ≠ q := by rw [hf]; split <;> omega
      have hfn : first < n := by rw [hf]; split <;> omega
      have h4 := h3 (exF first, entO now first) (mem_m2O.2 (.inr ⟨first, hfn, hfq, rfl⟩)) rfl
      rcases mem_m2O.1 hx with rfl | ⟨j, hj, hne, rfl⟩
      · exfalso
        simp only [older, entO, Bool.or_eq_false_iff, decide_eq_false_iff_not] at h4
        have h5 := of_decide_eq_false h4.1
        omega
      · by_cases e : j = first
        · rw [e]; rfl
        · exfalso
          simp only [older, entO, Bool.or_eq_false_iff, decide_eq_false_iff_not] at h4
          have h5 := of_decide_eq_false h4.1
          have : first < j := by
            by_cases hc : q = 0 ∧ 1 < n
            · rw [if_pos hc] at hf; omega
            · rw [if_neg hc] at hf; omega
          omega
theorem put_last {now : Int} {n q : Nat} {T' : Tb} {o : Ent} {fd : Bool} {er : Int} (hn : n ≤ 40) (hq : q < n) (h0 : 0 ≤ now) (h1 : now ≤ 549755813888) (first : Nat) (hf : first = if q = 0 ∧ 1 < n then 1 else 0) (h : PutRel ⟨m2O now n q, 0, 1, n, n⟩ (exF 1000) 2 2 (now + 101) T' o fd er) : o.flow = exF first ∧ fd = true ∧ er = 0 := by
  obtain ⟨g, hb, _, h2, h3⟩ := put_full_of h (exF_good (by omega) (by omega)) (by simp [goodTime]; omega) (lookL_none_of (fun p hp => by
    rcases mem_m2O.1 hp with rfl | ⟨j, hj, hne, rfl⟩ <;> exact fun e => by have := exF_inj e; omega)) (by dsimp only; omega) (by dsimp only; omega)
  exact ⟨best_O hn hq hb first hf, h2, h3⟩
theorem alive_ct  (w : World) : Calls Try.prog 9 #[] w fun e w' => e = .returned (.bool true) ∧ Fr w w' [] := by
  refine enterD (n := 70) Try.func9 rfl rfl (Nat.le_of_ble_eq_true rfl) ?_
  intro Q0 hN hret hret'
  have hC := Cx.start w
  refine WC.seq (fun K1 hK2 => ?_)
  refine WC.region ?_
  refine WL.runs 1 [(0, .bool false)] (fun _ => by kernel_rfl) ?_
  refine WL.done rfl ?_
  refine QX.then_normal (hK2 _ _ ?_)
  refine WC.seq (fun K3 hK4 => ?_)
  refine WC.region ?_
  refine WL.call rfl rfl rfl rfl rfl (by kernel_rfl) (New_ct 1 2 w (by omega) (by omega)) ?_
  rintro _ w8 ⟨p5, b6, rfl, hF7, hT10, hge11, hge12⟩
  have hC9 := hC.callN hF7 (G := [p5, b6]) (fun x_ hx_ => by simp at hx_; rcases hx_ with rfl | rfl; exact hge11; exact hge12) (tbAt_lt hT10)
  refine ⟨_, rfl, ?_⟩
  refine WL.runs 5 [(2, .nilIface), (1, .pointer (some ⟨p5, 0, none⟩)), (10, .nilIface), (9, .pointer (some ⟨p5, 0, none⟩)), (7, .tuple #[.pointer (some ⟨p5, 0, none⟩), .nilIface])] (fun _ => by kernel_rfl) ?_
  refine WL.done rfl ?_
  refine QX.then_normal (hK4 _ _ ?_)
  refine WC.seq (fun K13 hK14 => ?_)
  refine WC.seq (fun K15 hK16 => ?_)
  refine WC.region ?_
  refine WL.runs 6 [(16, .bool false), (15, .bool false), (14, .pointer (some ⟨p5, 0, none⟩)), (13, .bool false), (12, .bool false), (11, .nilIface)] (fun _ => by kernel_rfl) ?_
  refine WL.done rfl ?_
  refine QX.then_normal (hK16 _ _ ?_)
  refine WC.cond_false rfl ?_
  refine WC.skip ?_
  refine QX.then_normal (hK14 _ _ ?_)
  refine WC.seq (fun K17 hK18 => ?_)
  refine WC.region ?_
  refine WL.runs 1 [(17, .pointer (some ⟨p5, 0, none⟩))] (fun _ => by kernel_rfl) ?_
  refine WL.call rfl rfl rfl rfl rfl (by kernel_rfl) (example_ct 1 w8) ?_
  rintro _ w20 ⟨rfl, hF19⟩
  refine ⟨_, rfl, ?_⟩
  have hC21 := hC9.call hF19
  have hf22 := tbAt_fr hT10 hF19 (by simp)
  refine WL.call rfl rfl rfl rfl rfl (by kernel_rfl) (Put_ct p5 b6 (⟨[], 0, 1, 0, 2⟩ : Tb) (⟨6, 134744072, 1, 16843009, 80⟩ : Flow) 7 0 0 w20 hf22 (by first | (dsimp only [al1, al2, al3, tbO]; omega) | omega) (by first | (dsimp only [al1, al2, al3, tbO]; omega) | omega)) ?_
  rintro _ w29 ⟨T23, o24, fd25, er26, rfl, hF28, hT31, hrel27⟩
  obtain ⟨rfl, rfl, rfl, rfl⟩ := al_put1 hrel27
  have hC30 := hC21.callF 0 rfl hF28 (fun _ hx_ => .inl hx_) (tbAt_lt hT31)
  refine ⟨_, rfl, ?_⟩
  refine WL.done rfl ?_
  refine QX.then_normal (hK18 _ _ ?_)
  refine WC.seq (fun K32 hK33 => ?_)
  refine WC.region ?_
  refine WL.runs 1 [(20, .pointer (some ⟨p5, 0, none⟩))] (fun _ => by kernel_rfl) ?_
  refine WL.call rfl rfl rfl rfl rfl (by kernel_rfl) (example_ct 2 w29) ?_
  rintro _ w35 ⟨rfl, hF34⟩
  refine ⟨_, rfl, ?_⟩
  have hC36 := hC30.call hF34
  have hf37 := tbAt_fr hT31 hF34 (by simp)
  refine WL.call rfl rfl rfl rfl rfl (by kernel_rfl) (Put_ct p5 b6 al1 (⟨6, 134744072, 2, 16843009, 80⟩ : Flow) 7 0 1 w35 hf37 (by first | (dsimp only [al1, al2, al3, tbO]; omega) | omega) (by first | (dsimp only [al1, al2, al3, tbO]; omega) | omega)) ?_
  rintro _ w44 ⟨T38, o39, fd40, er41, rfl, hF43, hT46, hrel42⟩
  obtain ⟨rfl, rfl, rfl, rfl⟩ := al_put2 hrel42
  have hC45 := hC36.callF 0 rfl hF43 (fun _ hx_ => .inl hx_) (tbAt_lt hT46)
  refine ⟨_, rfl, ?_⟩
  refine WL.done rfl ?_
  refine QX.then_normal (hK33 _ _ ?_)
  refine WC.seq (fun K47 hK48 => ?_)
  refine WC.region ?_
  refine WL.runs 1 [(24, .pointer (some ⟨p5, 0, none⟩))] (fun _ => by kernel_rfl) ?_
  refine WL.call rfl rfl rfl rfl rfl (by kernel_rfl) (example_ct 3 w44) ?_
  rintro _ w50 ⟨rfl, hF49⟩
  refine ⟨_, rfl, ?_⟩
  have hC51 := hC45.call hF49
  have hf52 := tbAt_fr hT46 hF49 (by simp)
  refine WL.call rfl rfl rfl rfl rfl (by kernel_rfl) (Put_ct p5 b6 al2 (⟨6, 134744072, 3, 16843009, 80⟩ : Flow) 8 5 2 w50 hf52 (by first | (dsimp only [al1, al2, al3, tbO]; omega) | omega) (by first | (dsimp only [al1, al2, al3, tbO]; omega) | omega)) ?_
  rintro _ w59 ⟨T53, o54, fd55, er56, rfl, hF58, hT61, hrel57⟩
  obtain ⟨rfl, rfl, rfl, rfl⟩ := al_put3 hrel57
  have hC60 := hC51.callF 0 rfl hF58 (fun _ hx_ => .inl hx_) (tbAt_lt hT61)
  refine ⟨_, rfl, ?_⟩
  refine WL.runs 4 [(29, .nilIface), (28, .bool true), (27, .agg #[.int .i64 6, .int .u32 134744072, .int .i64 1, .int .u32 16843009, .int .i64 80, .int .u32 7, .int .i64 0, .bool false, .bool false, .int .i64 0]), (23, .tuple #[.agg #[.int .i64 6, .int .u32 134744072, .int .i64 1, .int .u32 16843009, .int .i64 80, .int .u32 7, .int .i64 0, .bool false, .bool false, .int .i64 0], .bool true, .nilIface])] (fun _ => by kernel_rfl) ?_
  refine WL.newM hC60 (fun b => .pointer (some ⟨b, 0, none⟩)) (.cells #[.int .i64 0, .int .u32 0, .int .i64 0, .int .u32 0, .int .i64 0, .int .u32 0, .int .i64 0, .bool false, .bool false, .int .i64 0] 34) 3 (fun _ => by kernel_rfl) (fun g62 w63 hb66 hF64 hC65 => ?_)
  have hf67 := tbAt_fr hT61 hF64 (by simp)
  refine WL.storeM (c' := #[.int .i64 6, .int .u32 134744072, .int .i64 1, .int .u32 16843009, .int .i64 80, .int .u32 7, .int .i64 0, .bool false, .bool false, .int .i64 0]) hC65 0 34 g62 0 (.agg #[.int .i64 6, .int .u32 134744072, .int .i64 1, .int .u32 16843009, .int .i64 80, .int .u32 7, .int .i64 0, .bool false, .bool false, .int .i64 0]) (by kernel_rfl) rfl (by kernel_rfl) (fun w68 hF70 hC71 => ?_)
  have hf72 := tbAt_fr hf67 hF70 (hC65.apartM 0 0 rfl rfl)
  refine WL.runs 2 [(2, .nilIface), (4, .bool true)] (fun _ => by kernel_rfl) ?_
  refine WL.done rfl ?_
  refine QX.then_normal (hK48 _ _ ?_)
  refine WC.seq (fun K73 hK74 => ?_)
  refine WC.region ?_
  refine WL.runs 1 [(31, .pointer (some ⟨p5, 0, none⟩))] (fun _ => by kernel_rfl) ?_
  refine WL.call rfl rfl rfl rfl rfl (by kernel_rfl) (example_ct 3 w68) ?_
  rintro _ w76 ⟨rfl, hF75⟩
  refine ⟨_, rfl, ?_⟩
  have hC77 := hC71.call hF75
  have hf78 := tbAt_fr hf72 hF75 (by simp)
  refine WL.call rfl rfl rfl rfl rfl (by kernel_rfl) (Get_ct p5 b6 al3 (⟨6, 134744072, 3, 16843009, 80⟩ : Flow) w76 hf78) ?_
  rintro _ w80 ⟨rfl, hF79⟩
  refine ⟨_, rfl, ?_⟩
  have hC81 := hC77.call hF79
  have hf82 := tbAt_fr hf78 hF79 (by simp)
  refine WL.runs 3 [(35, .bool true), (34, .agg #[.int .i64 6, .int .u32 134744072, .int .i64 3, .int .u32 16843009, .int .i64 80, .int .u32 8, .int .i64 5, .bool false, .bool false, .int .i64 2]), (30, .tuple #[.agg #[.int .i64 6, .int .u32 134744072, .int .i64 3, .int .u32 16843009, .int .i64 80, .int .u32 8, .int .i64 5, .bool false, .bool false, .int .i64 2], .bool true])] (fun _ => by kernel_rfl) ?_
  refine WL.newM hC81 (fun b => .pointer (some ⟨b, 0, none⟩)) (.cells #[.int .i64 0, .int .u32 0, .int .i64 0, .int .u32 0, .int .i64 0, .int .u32 0, .int .i64 0, .bool false, .bool false, .int .i64 0] 34) 5 (fun _ => by kernel_rfl) (fun g83 w84 hb87 hF85 hC86 => ?_)
  have hf88 := tbAt_fr hf82 hF85 (by simp)
  refine WL.storeM (c' := #[.int .i64 6, .int .u32 134744072, .int .i64 3, .int .u32 16843009, .int .i64 80, .int .u32 8, .int .i64 5, .bool false, .bool false, .int .i64 2]) hC86 1 34 g83 0 (.agg #[.int .i64 6, .int .u32 134744072, .int .i64 3, .int .u32 16843009, .int .i64 80, .int .u32 8, .int .i64 5, .bool false, .bool false, .int .i64 2]) (by kernel_rfl) rfl (by kernel_rfl) (fun w89 hF91 hC92 => ?_)
  have hf93 := tbAt_fr hf88 hF91 (hC86.apartM 0 1 rfl rfl)
  refine WL.runs 1 [(6, .bool true)] (fun _ => by kernel_rfl) ?_
  refine WL.done rfl ?_
  refine QX.then_normal (hK74 _ _ ?_)
  refine WC.seq (fun K94 hK95 => ?_)
  refine WC.drawC hC92 [p5, b6] (by kernel_rfl) (fun w96 hF97 hC98 hS99 => ?_)
  have hf100 := tbAt_fr hf93 hF97 (by simp)
  refine WD.pure (NoPanic.then hN) 0 36 (.nilIface) (by kernel_rfl) (fun _ => by kernel_rfl) hS99 ?_
  refine WD.pure (NoPanic.then hN) 1 37 (.bool true) (by kernel_rfl) (fun _ => by kernel_rfl) hS99 ?_
  refine WD.pure (NoPanic.then hN) 2 38 (.bool true) (by kernel_rfl) (fun _ => by kernel_rfl) hS99 ?_
  refine WD.pure (NoPanic.then hN) 3 39 (.bool true) (by kernel_rfl) (fun _ => by kernel_rfl) hS99 ?_
  refine WD.pure (NoPanic.then hN) 4 40 (.bool true) (by kernel_rfl) (fun _ => by kernel_rfl) hS99 ?_
  refine WD.pure (NoPanic.then hN) 5 41 (.bool true) (by kernel_rfl) (fun _ => by kernel_rfl) hS99 ?_
  refine WD.pure (NoPanic.then hN) 6 42 (.pointer (some ⟨g62, 0, none⟩)) (by kernel_rfl) (fun _ => by kernel_rfl) hS99 ?_
  refine WD.load (NoPanic.then hN) 7 32 (.pointer (some ⟨g62, 0, none⟩)) (.agg #[.int .i64 6, .int .u32 134744072, .int .i64 1, .int .u32 16843009, .int .i64 80]) 43 (by kernel_rfl) (by kernel_rfl) (fun _ hS_ => run_ld (Fr.has hS_ (hC98.get 0 rfl) (hC98.notin 0 0 rfl rfl)) rfl) hS99 ?_
  refine WD.call 8 (by kernel_rfl) rfl rfl rfl rfl rfl (by kernel_rfl) (example_ct 1 w96) ?_
  rintro _ w102 ⟨rfl, hF101⟩
  have hS104 := hS99.trans hF101 (by simp)
  refine ⟨_, rfl, hS104, ?_⟩
  have hC103 := hC98.call hF101
  have hf105 := tbAt_fr hf100 hF101 (by simp)
  have hr106 : ∀ w_, Sem.run Try.prog (do eqGuard .eql 32 (Operand.tmp 43) (Operand.tmp 44) (.agg #[.int .i64 6, .int .u32 134744072, .int .i64 1, .int .u32 16843009, .int .i64 80]) (.agg #[.int .i64 6, .int .u32 134744072, .int .i64 1, .int .u32 16843009, .int .i64 80]); binOp .eql 32 (.agg #[.int .i64 6, .int .u32 134744072, .int .i64 1, .int .u32 16843009, .int .i64 80]) (.agg #[.int .i64 6, .int .u32 134744072, .int .i64 1, .int .u32 16843009, .int .i64 80])) w_ = .ok (.bool ((6 : Int) == (6 : Int) && ((134744072 : Int) == (134744072 : Int) && ((1 : Int) == (1 : Int) && ((16843009 : Int) == (16843009 : Int) && ((80 : Int) == (80 : Int) && true)))))) w_ := fun w_ => (run_eql_S (by kernel_rfl))
  refine WD.semP (NoPanic.then hN) 9 (do eqGuard .eql 32 (Operand.tmp 43) (Operand.tmp 44) (.agg #[.int .i64 6, .int .u32 134744072, .int .i64 1, .int .u32 16843009, .int .i64 80]) (.agg #[.int .i64 6, .int .u32 134744072, .int .i64 1, .int .u32 16843009, .int .i64 80]); binOp .eql 32 (.agg #[.int .i64 6, .int .u32 134744072, .int .i64 1, .int .u32 16843009, .int .i64 80]) (.agg #[.int .i64 6, .int .u32 134744072, .int .i64 1, .int .u32 16843009, .int .i64 80])) 45 (.bool ((6 : Int) == (6 : Int) && ((134744072 : Int) == (134744072 : Int) && ((1 : Int) == (1 : Int) && ((16843009 : Int) == (16843009 : Int) && ((80 : Int) == (80 : Int) && true)))))) (by kernel_rfl) (by kernel_rfl) (fun _ _ => hr106 _) hS104 ?_
  refine WD.pure (NoPanic.then hN) 10 46 (.bool ((6 : Int) == (6 : Int) && ((134744072 : Int) == (134744072 : Int) && ((1 : Int) == (1 : Int) && ((16843009 : Int) == (16843009 : Int) && ((80 : Int) == (80 : Int) && true)))))) (by kernel_rfl) (fun _ => by kernel_rfl) hS104 ?_
  refine WD.pure (NoPanic.then hN) 11 47 (.bool ((6 : Int) == (6 : Int) && ((134744072 : Int) == (134744072 : Int) && ((1 : Int) == (1 : Int) && ((16843009 : Int) == (16843009 : Int) && ((80 : Int) == (80 : Int) && true)))))) (by kernel_rfl) (fun _ => by kernel_rfl) hS104 ?_
  refine WD.know 47 (.bool ((6 : Int) == (6 : Int) && ((134744072 : Int) == (134744072 : Int) && ((1 : Int) == (1 : Int) && ((16843009 : Int) == (16843009 : Int) && ((80 : Int) == (80 : Int) && true)))))) (.bool true) rfl (congrArg Value.bool (by decide +kernel)) ?_
  refine WD.pure (NoPanic.then hN) 12 48 (.bool true) (by kernel_rfl) (fun _ => by kernel_rfl) hS104 ?_
  refine WD.pure (NoPanic.then hN) 13 49 (.bool true) (by kernel_rfl) (fun _ => by kernel_rfl) hS104 ?_
  refine WD.pure (NoPanic.then hN) 14 50 (.bool true) (by kernel_rfl) (fun _ => by kernel_rfl) hS104 ?_
  refine WD.pure (NoPanic.then hN) 15 51 (.pointer (some ⟨g83, 5, none⟩)) (by kernel_rfl) (fun _ => by kernel_rfl) hS104 ?_
  refine WD.sem 16 (Instr.loadAt 30 (.pointer (some ⟨g83, 5, none⟩))) 52 (.int .u32 8) (by kernel_rfl) (by kernel_rfl) (run_ld (hC103.get 1 rfl) rfl) hS104 ?_
  refine WD.pure (NoPanic.then hN) 17 53 (.bool true) (by kernel_rfl) (fun _ => by kernel_rfl) hS104 ?_
  refine WD.pure (NoPanic.then hN) 18 54 (.bool true) (by kernel_rfl) (fun _ => by kernel_rfl) hS104 ?_
  refine WD.pure (NoPanic.then hN) 19 55 (.bool true) (by kernel_rfl) (fun _ => by kernel_rfl) hS104 ?_
  refine WD.pure (NoPanic.then hN) 20 56 (.pointer (some ⟨g83, 6, none⟩)) (by kernel_rfl) (fun _ => by kernel_rfl) hS104 ?_
  refine WD.sem 21 (Instr.loadAt 3 (.pointer (some ⟨g83, 6, none⟩))) 57 (.int .i64 5) (by kernel_rfl) (by kernel_rfl) (run_ld (hC103.get 1 rfl) rfl) hS104 ?_
  refine WD.pure (NoPanic.then hN) 22 58 (.bool true) (by kernel_rfl) (fun _ => by kernel_rfl) hS104 ?_
  refine WD.pure (NoPanic.then hN) 23 59 (.bool true) (by kernel_rfl) (fun _ => by kernel_rfl) hS104 ?_
  refine WD.pure (NoPanic.then hN) 24 60 (.bool true) (by kernel_rfl) (fun _ => by kernel_rfl) hS104 ?_
  refine WD.pure (NoPanic.then hN) 25 61 (.pointer (some ⟨g83, 9, none⟩)) (by kernel_rfl) (fun _ => by kernel_rfl) hS104 ?_
  refine WD.sem 26 (Instr.loadAt 3 (.pointer (some ⟨g83, 9, none⟩))) 62 (.int .i64 2) (by kernel_rfl) (by kernel_rfl) (run_ld (hC103.get 1 rfl) rfl) hS104 ?_
  refine WD.pure (NoPanic.then hN) 27 63 (.bool true) (by kernel_rfl) (fun _ => by kernel_rfl) hS104 ?_
  refine WD.pure (NoPanic.then hN) 28 64 (.bool true) (by kernel_rfl) (fun _ => by kernel_rfl) hS104 ?_
  refine WD.pure (NoPanic.then hN) 29 65 (.bool true) (by kernel_rfl) (fun _ => by kernel_rfl) hS104 ?_
  refine WD.pure (NoPanic.then hN) 30 66 (.pointer (some ⟨p5, 0, none⟩)) (by kernel_rfl) (fun _ => by kernel_rfl) hS104 ?_
  refine WD.call 31 (by kernel_rfl) rfl rfl rfl rfl rfl (by kernel_rfl) (example_ct 2 w102) ?_
  rintro _ w108 ⟨rfl, hF107⟩
  have hS110 := hS104.trans hF107 (by simp)
  refine ⟨_, rfl, hS110, ?_⟩
  have hC109 := hC103.call hF107
  have hf111 := tbAt_fr hf105 hF107 (by simp)
  refine WD.call 32 (by kernel_rfl) rfl rfl rfl rfl rfl (by kernel_rfl) (Touch_ct p5 b6 al3 (⟨6, 134744072, 2, 16843009, 80⟩ : Flow) 16 3 w108 hf111 (by first | (dsimp only [al1, al2, al3, tbO]; omega) | omega) (by first | (dsimp only [al1, al2, al3, tbO]; omega) | omega)) ?_
  rintro _ w113 ⟨rfl, hF112, hT115⟩
  have hC114 := hC109.callF 0 rfl hF112 (fun _ hx_ => .inl hx_) (tbAt_lt hT115)
  have hS116 := hS110.trans hF112 (by simp)
  refine ⟨_, rfl, hS116, ?_⟩
  refine WD.pure (NoPanic.then hN) 33 69 (.bool true) (by kernel_rfl) (fun _ => by kernel_rfl) hS116 ?_
  refine WD.pure (NoPanic.then hN) 34 0 (.bool true) (by kernel_rfl) (fun _ => by kernel_rfl) hS116 ?_
  refine WD.done (by kernel_rfl) ?_
  refine QX.then_normal (hK95 _ _ ?_)
  refine WC.ret ?_
  refine (hret _ _ _ rfl ?_).1
  clear hN hret hret' hK95 hK74 hK48 hK33 hK18 hK16 hK14 hK4 hK2
  exact ⟨rfl, hC114.fr⟩

theorem err_eqlc (X Y : Operand) (c k : Int) (hk : k ≠ 0) (w : World) : Sem.run Try.prog (do eqGuard .eql 26 X Y (errV 47 c) (.iface 47 (.int .i64 k)); binOp .eql 26 (errV 47 c) (.iface 47 (.int .i64 k))) w = .ok (.bool (decide (c = k))) w := by
  unfold errV
  by_cases hc : c = 0
  · subst hc
    have : decide ((0 : Int) = k) = false := decide_eq_false (fun e => hk e.symm)
    rw [this]
    show Sem.run Try.prog (do eqGuard .eql 26 X Y .nilIface (.iface 47 (.int .i64 k)); binOp .eql 26 .nilIface (.iface 47 (.int .i64 k))) w = _
    cases X <;> cases Y <;> kernel_rfl
  · simp only [hc, if_false]; cases X <;> cases Y <;> kernel_rfl
theorem FlowNone_ct (kind : Int) (f : Flow) (more : Value) (dip ep flags now : Int) (w : World) : Calls Try.prog 8 #[.agg #[.int .i64 kind, .int .i64 f.proto, .int .u32 f.src, .int .i64 f.sport, .int .u32 f.dst, .int .i64 f.dport, more, .int .u32 dip, .int .i64 ep, .int .i64 flags, .int .i64 now]] w fun e w' => e = .returned (.bool true) ∧ Fr w w' [] := by
  refine enterD (n := 105) Try.func8 rfl rfl (Nat.le_of_ble_eq_true rfl) ?_
  intro Q0 hN hret hret'
  have hC := Cx.start w
  refine WC.seq (fun K1 hK2 => ?_)
  refine WC.region ?_
  refine WL.newM hC (fun b => .pointer (some ⟨b, 0, none⟩)) (.cells #[.int .i64 kind, .int .i64 f.proto, .int .u32 f.src, .int .i64 f.sport, .int .u32 f.dst, .int .i64 f.dport, more, .int .u32 dip, .int .i64 ep, .int .i64 flags, .int .i64 now] 53) 1 (fun _ => by kernel_rfl) (fun g3 w4 hb7 hF5 hC6 => ?_)
  refine WL.runs 1 [(2, .bool false)] (fun _ => by kernel_rfl) ?_
  refine WL.done rfl ?_
  refine QX.then_normal (hK2 _ _ ?_)
  refine WC.seq (fun K8 hK9 => ?_)
  refine WC.seq (fun K10 hK11 => ?_)
  refine WC.region ?_
  refine WL.call rfl rfl rfl rfl rfl (by kernel_rfl) (alive_ct w4) ?_
  rintro _ w13 ⟨rfl, hF12⟩
  refine ⟨_, rfl, ?_⟩
  have hC14 := hC6.call hF12
  refine WL.runs 1 [(13, .bool false)] (fun _ => by kernel_rfl) ?_
  refine WL.done rfl ?_
  refine QX.then_normal (hK11 _ _ ?_)
  refine WC.cond_false rfl ?_
  refine WC.skip ?_
  refine QX.then_normal (hK9 _ _ ?_)
  refine WC.seq (fun K15 hK16 => ?_)
  refine WC.region ?_
  refine WL.runs 1 [(3, .pointer none)] (fun _ => by kernel_rfl) ?_
  refine WL.done rfl ?_
  refine QX.then_normal (hK16 _ _ ?_)
  refine WC.seq (fun K17 hK18 => ?_)
  refine WC.region ?_
  refine WL.runs 2 [(16, .pointer (some ⟨g3, 1, none⟩)), (15, .pointer none)] (fun _ => by kernel_rfl) ?_
  refine WL.load 32 (.pointer (some ⟨g3, 1, none⟩)) (.agg #[.int .i64 f.proto, .int .u32 f.src, .int .i64 f.sport, .int .u32 f.dst, .int .i64 f.dport]) 17 (by kernel_rfl) (run_ld (hC14.get 0 rfl) rfl) ?_
  refine WL.runs 1 [(18, .pointer (some ⟨g3, 7, none⟩))] (fun _ => by kernel_rfl) ?_
  refine WL.load 30 (.pointer (some ⟨g3, 7, none⟩)) (.int .u32 dip) 19 (by kernel_rfl) (run_ld (hC14.get 0 rfl) rfl) ?_
  refine WL.runs 1 [(20, .pointer (some ⟨g3, 8, none⟩))] (fun _ => by kernel_rfl) ?_
  refine WL.load 3 (.pointer (some ⟨g3, 8, none⟩)) (.int .i64 ep) 21 (by kernel_rfl) (run_ld (hC14.get 0 rfl) rfl) ?_
  refine WL.runs 1 [(22, .pointer (some ⟨g3, 10, none⟩))] (fun _ => by kernel_rfl) ?_
  refine WL.load 3 (.pointer (some ⟨g3, 10, none⟩)) (.int .i64 now) 23 (by kernel_rfl) (run_ld (hC14.get 0 rfl) rfl) ?_
  refine WL.call rfl rfl rfl rfl rfl (by kernel_rfl) (Put_nil f dip ep now w13) ?_
  rintro _ w20 ⟨rfl, hF19⟩
  refine ⟨_, rfl, ?_⟩
  have hC21 := hC14.call hF19
  refine WL.runs 4 [(27, errV 47 (if goodF f then (if goodTime now then 5 else 4) else 9)), (26, .bool false), (25, .agg #[.int .i64 zeroE.flow.proto, .int .u32 zeroE.flow.src, .int .i64 zeroE.flow.sport, .int .u32 zeroE.flow.dst, .int .i64 zeroE.flow.dport, .int .u32 zeroE.dip, .int .i64 zeroE.epoch, .bool zeroE.trusted, .bool zeroE.closing, .int .i64 zeroE.last]), (14, .tuple #[.agg #[.int .i64 zeroE.flow.proto, .int .u32 zeroE.flow.src, .int .i64 zeroE.flow.sport, .int .u32 zeroE.flow.dst, .int .i64 zeroE.flow.dport, .int .u32 zeroE.dip, .int .i64 zeroE.epoch, .bool zeroE.trusted, .bool zeroE.closing, .int .i64 zeroE.last], .bool false, errV 47 (if goodF f then (if goodTime now then 5 else 4) else 9)])] (fun _ => by kernel_rfl) ?_
  refine WL.newM hC21 (fun b => .pointer (some ⟨b, 0, none⟩)) (.cells #[.int .i64 0, .int .u32 0, .int .i64 0, .int .u32 0, .int .i64 0, .int .u32 0, .int .i64 0, .bool false, .bool false, .int .i64 0] 34) 4 (fun _ => by kernel_rfl) (fun g22 w23 hb26 hF24 hC25 => ?_)
  refine WL.storeM (c' := #[.int .i64 zeroE.flow.proto, .int .u32 zeroE.flow.src, .int .i64 zeroE.flow.sport, .int .u32 zeroE.flow.dst, .int .i64 zeroE.flow.dport, .int .u32 zeroE.dip, .int .i64 zeroE.epoch, .bool zeroE.trusted, .bool zeroE.closing, .int .i64 zeroE.last]) hC25 1 34 g22 0 (.agg #[.int .i64 zeroE.flow.proto, .int .u32 zeroE.flow.src, .int .i64 zeroE.flow.sport, .int .u32 zeroE.flow.dst, .int .i64 zeroE.flow.dport, .int .u32 zeroE.dip, .int .i64 zeroE.epoch, .bool zeroE.trusted, .bool zeroE.closing, .int .i64 zeroE.last]) (by kernel_rfl) rfl (by kernel_rfl) (fun w27 hF29 hC30 => ?_)
  refine WL.runs 2 [(6, errV 47 (if goodF f then (if goodTime now then 5 else 4) else 9)), (5, .bool false)] (fun _ => by kernel_rfl) ?_
  refine WL.done rfl ?_
  refine QX.then_normal (hK18 _ _ ?_)
  refine WC.seq (fun K31 hK32 => ?_)
  refine WC.region ?_
  refine WL.runs 2 [(30, .pointer (some ⟨g3, 1, none⟩)), (29, .pointer none)] (fun _ => by kernel_rfl) ?_
  refine WL.load 32 (.pointer (some ⟨g3, 1, none⟩)) (.agg #[.int .i64 f.proto, .int .u32 f.src, .int .i64 f.sport, .int .u32 f.dst, .int .i64 f.dport]) 31 (by kernel_rfl) (run_ld (hC30.get 0 rfl) rfl) ?_
  refine WL.call rfl rfl rfl rfl rfl (by kernel_rfl) (Get_nil f w27) ?_
  rintro _ w34 ⟨rfl, hF33⟩
  refine ⟨_, rfl, ?_⟩
  have hC35 := hC30.call hF33
  refine WL.runs 3 [(34, .bool false), (33, .agg #[.int .i64 zeroE.flow.proto, .int .u32 zeroE.flow.src, .int .i64 zeroE.flow.sport, .int .u32 zeroE.flow.dst, .int .i64 zeroE.flow.dport, .int .u32 zeroE.dip, .int .i64 zeroE.epoch, .bool zeroE.trusted, .bool zeroE.closing, .int .i64 zeroE.last]), (28, .tuple #[.agg #[.int .i64 zeroE.flow.proto, .int .u32 zeroE.flow.src, .int .i64 zeroE.flow.sport, .int .u32 zeroE.flow.dst, .int .i64 zeroE.flow.dport, .int .u32 zeroE.dip, .int .i64 zeroE.epoch, .bool zeroE.trusted, .bool zeroE.closing, .int .i64 zeroE.last], .bool false])] (fun _ => by kernel_rfl) ?_
  refine WL.newM hC35 (fun b => .pointer (some ⟨b, 0, none⟩)) (.cells #[.int .i64 0, .int .u32 0, .int .i64 0, .int .u32 0, .int .i64 0, .int .u32 0, .int .i64 0, .bool false, .bool false, .int .i64 0] 34) 7 (fun _ => by kernel_rfl) (fun g36 w37 hb40 hF38 hC39 => ?_)
  refine WL.storeM (c' := #[.int .i64 zeroE.flow.proto, .int .u32 zeroE.flow.src, .int .i64 zeroE.flow.sport, .int .u32 zeroE.flow.dst, .int .i64 zeroE.flow.dport, .int .u32 zeroE.dip, .int .i64 zeroE.epoch, .bool zeroE.trusted, .bool zeroE.closing, .int .i64 zeroE.last]) hC39 2 34 g36 0 (.agg #[.int .i64 zeroE.flow.proto, .int .u32 zeroE.flow.src, .int .i64 zeroE.flow.sport, .int .u32 zeroE.flow.dst, .int .i64 zeroE.flow.dport, .int .u32 zeroE.dip, .int .i64 zeroE.epoch, .bool zeroE.trusted, .bool zeroE.closing, .int .i64 zeroE.last]) (by kernel_rfl) rfl (by kernel_rfl) (fun w41 hF43 hC44 => ?_)
  refine WL.runs 1 [(8, .bool false)] (fun _ => by kernel_rfl) ?_
  refine WL.done rfl ?_
  refine QX.then_normal (hK32 _ _ ?_)
  refine WC.seq (fun K45 hK46 => ?_)
  refine WC.region ?_
  refine WL.runs 1 [(36, .pointer none)] (fun _ => by kernel_rfl) ?_
  refine WL.call rfl rfl rfl rfl rfl (by kernel_rfl) (Len_nil w41) ?_
  rintro _ w48 ⟨rfl, hF47⟩
  refine ⟨_, rfl, ?_⟩
  have hC49 := hC44.call hF47
  refine WL.runs 5 [(10, .int .i64 0), (9, .int .i64 0), (39, .int .i64 0), (38, .int .i64 0), (35, .tuple #[.int .i64 0, .int .i64 0])] (fun _ => by kernel_rfl) ?_
  refine WL.done rfl ?_
  refine QX.then_normal (hK46 _ _ ?_)
  refine WC.seq (fun K50 hK51 => ?_)
  refine WC.region ?_
  refine WL.runs 1 [(11, .int .i64 5)] (fun _ => by kernel_rfl) ?_
  refine WL.done rfl ?_
  refine QX.then_normal (hK51 _ _ ?_)
  refine WC.seq (fun K52 hK53 => ?_)
  refine WC.seq (fun K54 hK55 => ?_)
  refine WC.region ?_
  refine WL.runs 1 [(40, .pointer (some ⟨g3, 10, none⟩))] (fun _ => by kernel_rfl) ?_
  refine WL.load 3 (.pointer (some ⟨g3, 10, none⟩)) (.int .i64 now) 41 (by kernel_rfl) (run_ld (hC49.get 0 rfl) rfl) ?_
  refine WL.runs 2 [(43, .bool (decide (now < 0))), (42, .bool (decide (now < 0)))] (fun _ => by kernel_rfl) ?_
  refine WL.test_at 43 (decide (now < 0)) rfl (fun t56b => ?_) (fun t56b => ?_)
  · -- now < 0: true
    have t56 : now < 0 := by have q_ := of_decide_eq_true t56b; omega
    refine WL.runs 4 [(47, .bool true), (46, undef), (45, undef), (44, undef)] (fun _ => by kernel_rfl) ?_
    refine WL.done rfl ?_
    refine QX.then_normal (hK55 _ _ ?_)
    refine WC.cond_true rfl ?_
    refine WC.region ?_
    refine WL.runs 1 [(11, .int .i64 4)] (fun _ => by kernel_rfl) ?_
    refine WL.done rfl ?_
    refine QX.then_normal (hK53 _ _ ?_)
    refine WC.seq (fun K57 hK58 => ?_)
    refine WC.seq (fun K59 hK60 => ?_)
    refine WC.region ?_
    refine WL.runs 1 [(48, .pointer (some ⟨g3, 1, none⟩))] (fun _ => by kernel_rfl) ?_
    refine WL.load 32 (.pointer (some ⟨g3, 1, none⟩)) (.agg #[.int .i64 f.proto, .int .u32 f.src, .int .i64 f.sport, .int .u32 f.dst, .int .i64 f.dport]) 49 (by kernel_rfl) (run_ld (hC49.get 0 rfl) rfl) ?_
    refine WL.call rfl rfl rfl rfl rfl (by kernel_rfl) (Good1_ct f w48) ?_
    rintro _ w62 ⟨rfl, hF61⟩
    refine ⟨_, rfl, ?_⟩
    have hC63 := hC49.call hF61
    refine WL.runs 1 [(51, .bool (!(goodF f)))] (fun _ => by kernel_rfl) ?_
    refine WL.done rfl ?_
    refine QX.then_normal (hK60 _ _ ?_)
    refine WC.test_at 51 (!(goodF f)) rfl (fun t64b => ?_) (fun t64b => ?_)
    · -- (!(goodF f)) = true: true
      have t64 : (goodF f) = false := by first | (simpa only [Bool.not_eq_true', Bool.not_eq_false'] using t64b) | simpa using t64b
      refine WC.cond_true rfl ?_
      refine WC.region ?_
      refine WL.runs 1 [(11, .int .i64 9)] (fun _ => by kernel_rfl) ?_
      refine WL.done rfl ?_
      refine QX.then_normal (hK58 _ _ ?_)
      refine WC.seq (fun K65 hK66 => ?_)
      refine WC.region ?_
      refine WL.runs 6 [(57, .iface 47 (.int .i64 9)), (56, .int .i64 9), (55, errV 47 (if goodF f then (if goodTime now then 5 else 4) else 9)), (54, .bool true), (53, .bool true), (52, .bool false)] (fun _ => by kernel_rfl) ?_
      have hr67 : ∀ w_, Sem.run Try.prog (do eqGuard .eql 26 (Operand.tmp 55) (Operand.tmp 57) (errV 47 (if goodF f then (if goodTime now then 5 else 4) else 9)) (.iface 47 (.int .i64 9)); binOp .eql 26 (errV 47 (if goodF f then (if goodTime now then 5 else 4) else 9)) (.iface 47 (.int .i64 9))) w_ = .ok (.bool (decide ((if goodF f then (if goodTime now then 5 else 4) else 9) = (9 : Int)))) w_ := fun w_ => (err_eqlc _ _ (if goodF f then (if goodTime now then 5 else 4) else 9) 9 (by decide) _)
      refine WL.sem (do eqGuard .eql 26 (Operand.tmp 55) (Operand.tmp 57) (errV 47 (if goodF f then (if goodTime now then 5 else 4) else 9)) (.iface 47 (.int .i64 9)); binOp .eql 26 (errV 47 (if goodF f then (if goodTime now then 5 else 4) else 9)) (.iface 47 (.int .i64 9))) 58 (.bool (decide ((if goodF f then (if goodTime now then 5 else 4) else 9) = (9 : Int)))) (by kernel_rfl) (hr67 _) ?_
      refine WL.runs 2 [(60, .bool (decide ((if goodF f then (if goodTime now then 5 else 4) else 9) = (9 : Int)))), (59, .bool (decide ((if goodF f then (if goodTime now then 5 else 4) else 9) = (9 : Int))))] (fun _ => by kernel_rfl) ?_
      refine WL.know 60 (.bool (decide ((if goodF f then (if goodTime now then 5 else 4) else 9) = (9 : Int)))) (.bool true) rfl (congrArg Value.bool (by simp [goodTime, t56, t56b, t64, t64b] <;> omega)) ?_
      refine WL.runs 14 [(74, .pointer (some ⟨g3, 1, none⟩)), (73, .pointer none), (72, .bool true), (71, .bool true), (70, .bool true), (69, .int .i64 0), (68, .bool true), (67, .bool true), (66, .bool true), (65, .int .i64 0), (64, .bool true), (63, .bool true), (62, .bool true), (61, .bool false)] (fun _ => by kernel_rfl) ?_
      refine WL.load 32 (.pointer (some ⟨g3, 1, none⟩)) (.agg #[.int .i64 f.proto, .int .u32 f.src, .int .i64 f.sport, .int .u32 f.dst, .int .i64 f.dport]) 75 (by kernel_rfl) (run_ld (hC63.get 0 rfl) rfl) ?_
      refine WL.runs 1 [(76, .pointer (some ⟨g3, 9, none⟩))] (fun _ => by kernel_rfl) ?_
      refine WL.load 3 (.pointer (some ⟨g3, 9, none⟩)) (.int .i64 flags) 77 (by kernel_rfl) (run_ld (hC63.get 0 rfl) rfl) ?_
      refine WL.runs 1 [(78, .pointer (some ⟨g3, 10, none⟩))] (fun _ => by kernel_rfl) ?_
      refine WL.load 3 (.pointer (some ⟨g3, 10, none⟩)) (.int .i64 now) 79 (by kernel_rfl) (run_ld (hC63.get 0 rfl) rfl) ?_
      refine WL.call rfl rfl rfl rfl rfl (by kernel_rfl) (Touch_nil f flags now w62) ?_
      rintro _ w69 ⟨rfl, hF68⟩
      refine ⟨_, rfl, ?_⟩
      have hC70 := hC63.call hF68
      refine WL.runs 5 [(85, .pointer (some ⟨g3, 1, none⟩)), (84, .pointer none), (83, .bool true), (82, .bool true), (81, .bool true)] (fun _ => by kernel_rfl) ?_
      refine WL.load 32 (.pointer (some ⟨g3, 1, none⟩)) (.agg #[.int .i64 f.proto, .int .u32 f.src, .int .i64 f.sport, .int .u32 f.dst, .int .i64 f.dport]) 86 (by kernel_rfl) (run_ld (hC70.get 0 rfl) rfl) ?_
      refine WL.newM hC70 (fun b => .slice (some ⟨b, 0, none⟩) 1 1) (.cells #[.int .i64 f.proto, .int .u32 f.src, .int .i64 f.sport, .int .u32 f.dst, .int .i64 f.dport] 32) 87 (fun _ => by kernel_rfl) (fun g71 w72 hb75 hF73 hC74 => ?_)
      refine WL.call rfl rfl rfl rfl rfl (by kernel_rfl) (Remove_nil (some ⟨g71, 0, none⟩) 1 [f] w72 (Rd.blk (xs := [f]) (hC74.get 3 rfl) cellsF_len rfl) (by simp)) ?_
      rintro _ w77 ⟨rfl, hF76⟩
      refine ⟨_, rfl, ?_⟩
      have hC78 := hC74.call hF76
      refine WL.runs 5 [(93, .pointer (some ⟨g3, 10, none⟩)), (92, .pointer none), (91, .bool true), (90, .bool true), (89, .bool true)] (fun _ => by kernel_rfl) ?_
      refine WL.load 3 (.pointer (some ⟨g3, 10, none⟩)) (.int .i64 now) 94 (by kernel_rfl) (run_ld (hC78.get 0 rfl) rfl) ?_
      refine WL.call rfl rfl rfl rfl rfl (by kernel_rfl) (Expire_nil now w77) ?_
      rintro _ w80 ⟨rfl, hF79⟩
      refine ⟨_, rfl, ?_⟩
      have hC81 := hC78.call hF79
      refine WL.runs 5 [(100, .pointer none), (99, .bool true), (98, .bool true), (97, .bool true), (96, .int .i64 0)] (fun _ => by kernel_rfl) ?_
      refine WL.call rfl rfl rfl rfl rfl (by kernel_rfl) (All_nil w80) ?_
      rintro _ w83 ⟨rfl, hF82⟩
      refine ⟨_, rfl, ?_⟩
      have hC84 := hC81.call hF82
      refine WL.runs 4 [(2, .bool true), (104, .bool true), (103, .bool true), (102, .int .i64 0)] (fun _ => by kernel_rfl) ?_
      refine WL.done rfl ?_
      refine QX.then_normal (hK66 _ _ ?_)
      refine WC.ret ?_
      refine (hret _ _ _ rfl ?_).1
      clear hN hret hret' hK66 hK60 hK58 hK55 hK53 hK51 hK46 hK32 hK18 hK16 hK11 hK9 hK2
      exact ⟨rfl, hC84.fr⟩
    · -- (!(goodF f)) = true: false
      have t64 : (goodF f) = true := by first | (simpa only [Bool.not_eq_true', Bool.not_eq_false'] using t64b) | simpa using t64b
      refine WC.cond_false rfl ?_
      refine WC.skip ?_
      refine QX.then_normal (hK58 _ _ ?_)
      refine WC.seq (fun K85 hK86 => ?_)
      refine WC.region ?_
      refine WL.runs 6 [(57, .iface 47 (.int .i64 4)), (56, .int .i64 4), (55, errV 47 (if goodF f then (if goodTime now then 5 else 4) else 9)), (54, .bool true), (53, .bool true), (52, .bool false)] (fun _ => by kernel_rfl) ?_
      have hr87 : ∀ w_, Sem.run Try.prog (do eqGuard .eql 26 (Operand.tmp 55) (Operand.tmp 57) (errV 47 (if goodF f then (if goodTime now then 5 else 4) else 9)) (.iface 47 (.int .i64 4)); binOp .eql 26 (errV 47 (if goodF f then (if goodTime now then 5 else 4) else 9)) (.iface 47 (.int .i64 4))) w_ = .ok (.bool (decide ((if goodF f then (if goodTime now then 5 else 4) else 9) = (4 : Int)))) w_ := fun w_ => (err_eqlc _ _ (if goodF f then (if goodTime now then 5 else 4) else 9) 4 (by decide) _)
      refine WL.sem (do eqGuard .eql 26 (Operand.tmp 55) (Operand.tmp 57) (errV 47 (if goodF f then (if goodTime now then 5 else 4) else 9)) (.iface 47 (.int .i64 4)); binOp .eql 26 (errV 47 (if goodF f then (if goodTime now then 5 else 4) else 9)) (.iface 47 (.int .i64 4))) 58 (.bool (decide ((if goodF f then (if goodTime now then 5 else 4) else 9) = (4 : Int)))) (by kernel_rfl) (hr87 _) ?_
      refine WL.runs 2 [(60, .bool (decide ((if goodF f then (if goodTime now then 5 else 4) else 9) = (4 : Int)))), (59, .bool (decide ((if goodF f then (if goodTime now then 5 else 4) else 9) = (4 : Int))))] (fun _ => by kernel_rfl) ?_
      refine WL.know 60 (.bool (decide ((if goodF f then (if goodTime now then 5 else 4) else 9) = (4 : Int)))) (.bool true) rfl (congrArg Value.bool (by simp [goodTime, t56, t56b, t64, t64b] <;> omega)) ?_
      refine WL.runs 14 [(74, .pointer (some ⟨g3, 1, none⟩)), (73, .pointer none), (72, .bool true), (71, .bool true), (70, .bool true), (69, .int .i64 0), (68, .bool true), (67, .bool true), (66, .bool true), (65, .int .i64 0), (64, .bool true), (63, .bool true), (62, .bool true), (61, .bool false)] (fun _ => by kernel_rfl) ?_
      refine WL.load 32 (.pointer (some ⟨g3, 1, none⟩)) (.agg #[.int .i64 f.proto, .int .u32 f.src, .int .i64 f.sport, .int .u32 f.dst, .int .i64 f.dport]) 75 (by kernel_rfl) (run_ld (hC63.get 0 rfl) rfl) ?_
      refine WL.runs 1 [(76, .pointer (some ⟨g3, 9, none⟩))] (fun _ => by kernel_rfl) ?_
      refine WL.load 3 (.pointer (some ⟨g3, 9, none⟩)) (.int .i64 flags) 77 (by kernel_rfl) (run_ld (hC63.get 0 rfl) rfl) ?_
      refine WL.runs 1 [(78, .pointer (some ⟨g3, 10, none⟩))] (fun _ => by kernel_rfl) ?_
      refine WL.load 3 (.pointer (some ⟨g3, 10, none⟩)) (.int .i64 now) 79 (by kernel_rfl) (run_ld (hC63.get 0 rfl) rfl) ?_
      refine WL.call rfl rfl rfl rfl rfl (by kernel_rfl) (Touch_nil f flags now w62) ?_
      rintro _ w89 ⟨rfl, hF88⟩
      refine ⟨_, rfl, ?_⟩
      have hC90 := hC63.call hF88
      refine WL.runs 5 [(85, .pointer (some ⟨g3, 1, none⟩)), (84, .pointer none), (83, .bool true), (82, .bool true), (81, .bool true)] (fun _ => by kernel_rfl) ?_
      refine WL.load 32 (.pointer (some ⟨g3, 1, none⟩)) (.agg #[.int .i64 f.proto, .int .u32 f.src, .int .i64 f.sport, .int .u32 f.dst, .int .i64 f.dport]) 86 (by kernel_rfl) (run_ld (hC90.get 0 rfl) rfl) ?_
      refine WL.newM hC90 (fun b => .slice (some ⟨b, 0, none⟩) 1 1) (.cells #[.int .i64 f.proto, .int .u32 f.src, .int .i64 f.sport, .int .u32 f.dst, .int .i64 f.dport] 32) 87 (fun _ => by kernel_rfl) (fun g91 w92 hb95 hF93 hC94 => ?_)
      refine WL.call rfl rfl rfl rfl rfl (by kernel_rfl) (Remove_nil (some ⟨g91, 0, none⟩) 1 [f] w92 (Rd.blk (xs := [f]) (hC94.get 3 rfl) cellsF_len rfl) (by simp)) ?_
      rintro _ w97 ⟨rfl, hF96⟩
      refine ⟨_, rfl, ?_⟩
      have hC98 := hC94.call hF96
      refine WL.runs 5 [(93, .pointer (some ⟨g3, 10, none⟩)), (92, .pointer none), (91, .bool true), (90, .bool true), (89, .bool true)] (fun _ => by kernel_rfl) ?_
      refine WL.load 3 (.pointer (some ⟨g3, 10, none⟩)) (.int .i64 now) 94 (by kernel_rfl) (run_ld (hC98.get 0 rfl) rfl) ?_
      refine WL.call rfl rfl rfl rfl rfl (by kernel_rfl) (Expire_nil now w97) ?_
      rintro _ w100 ⟨rfl, hF99⟩
      refine ⟨_, rfl, ?_⟩
      have hC101 := hC98.call hF99
      refine WL.runs 5 [(100, .pointer none), (99, .bool true), (98, .bool true), (97, .bool true), (96, .int .i64 0)] (fun _ => by kernel_rfl) ?_
      refine WL.call rfl rfl rfl rfl rfl (by kernel_rfl) (All_nil w100) ?_
      rintro _ w103 ⟨rfl, hF102⟩
      refine ⟨_, rfl, ?_⟩
      have hC104 := hC101.call hF102
      refine WL.runs 4 [(2, .bool true), (104, .bool true), (103, .bool true), (102, .int .i64 0)] (fun _ => by kernel_rfl) ?_
      refine WL.done rfl ?_
      refine QX.then_normal (hK86 _ _ ?_)
      refine WC.ret ?_
      refine (hret _ _ _ rfl ?_).1
      clear hN hret hret' hK86 hK60 hK58 hK55 hK53 hK51 hK46 hK32 hK18 hK16 hK11 hK9 hK2
      exact ⟨rfl, hC104.fr⟩
  · -- now < 0: false
    have t56 : (0 : Int) ≤ now := by have q_ := of_decide_eq_false t56b; omega
    refine WL.runs 1 [(44, .pointer (some ⟨g3, 10, none⟩))] (fun _ => by kernel_rfl) ?_
    refine WL.load 3 (.pointer (some ⟨g3, 10, none⟩)) (.int .i64 now) 45 (by kernel_rfl) (run_ld (hC49.get 0 rfl) rfl) ?_
    refine WL.runs 2 [(47, .bool (decide (now > 1099511627776))), (46, .bool (decide (now > 1099511627776)))] (fun _ => by kernel_rfl) ?_
    refine WL.done rfl ?_
    refine QX.then_normal (hK55 _ _ ?_)
    refine WC.test_at 47 (decide (now > 1099511627776)) rfl (fun t105b => ?_) (fun t105b => ?_)
    · -- now > 1099511627776: true
      have t105 : (1099511627776 : Int) < now := by have q_ := of_decide_eq_true t105b; omega
      refine WC.cond_true rfl ?_
      refine WC.region ?_
      refine WL.runs 1 [(11, .int .i64 4)] (fun _ => by kernel_rfl) ?_
      refine WL.done rfl ?_
      refine QX.then_normal (hK53 _ _ ?_)
      refine WC.seq (fun K106 hK107 => ?_)
      refine WC.seq (fun K108 hK109 => ?_)
      refine WC.region ?_
      refine WL.runs 1 [(48, .pointer (some ⟨g3, 1, none⟩))] (fun _ => by kernel_rfl) ?_
      refine WL.load 32 (.pointer (some ⟨g3, 1, none⟩)) (.agg #[.int .i64 f.proto, .int .u32 f.src, .int .i64 f.sport, .int .u32 f.dst, .int .i64 f.dport]) 49 (by kernel_rfl) (run_ld (hC49.get 0 rfl) rfl) ?_
      refine WL.call rfl rfl rfl rfl rfl (by kernel_rfl) (Good1_ct f w48) ?_
      rintro _ w111 ⟨rfl, hF110⟩
      refine ⟨_, rfl, ?_⟩
      have hC112 := hC49.call hF110
      refine WL.runs 1 [(51, .bool (!(goodF f)))] (fun _ => by kernel_rfl) ?_
      refine WL.done rfl ?_
      refine QX.then_normal (hK109 _ _ ?_)
      refine WC.test_at 51 (!(goodF f)) rfl (fun t113b => ?_) (fun t113b => ?_)
      · -- (!(goodF f)) = true: true
        have t113 : (goodF f) = false := by first | (simpa only [Bool.not_eq_true', Bool.not_eq_false'] using t113b) | simpa using t113b
        refine WC.cond_true rfl ?_
        refine WC.region ?_
        refine WL.runs 1 [(11, .int .i64 9)] (fun _ => by kernel_rfl) ?_
        refine WL.done rfl ?_
        refine QX.then_normal (hK107 _ _ ?_)
        refine WC.seq (fun K114 hK115 => ?_)
        refine WC.region ?_
        refine WL.runs 6 [(57, .iface 47 (.int .i64 9)), (56, .int .i64 9), (55, errV 47 (if goodF f then (if goodTime now then 5 else 4) else 9)), (54, .bool true), (53, .bool true), (52, .bool false)] (fun _ => by kernel_rfl) ?_
        have hr116 : ∀ w_, Sem.run Try.prog (do eqGuard .eql 26 (Operand.tmp 55) (Operand.tmp 57) (errV 47 (if goodF f then (if goodTime now then 5 else 4) else 9)) (.iface 47 (.int .i64 9)); binOp .eql 26 (errV 47 (if goodF f then (if goodTime now then 5 else 4) else 9)) (.iface 47 (.int .i64 9))) w_ = .ok (.bool (decide ((if goodF f then (if goodTime now then 5 else 4) else 9) = (9 : Int)))) w_ := fun w_ => (err_eqlc _ _ (if goodF f then (if goodTime now then 5 else 4) else 9) 9 (by decide) _)
        refine WL.sem (do eqGuard .eql 26 (Operand.tmp 55) (Operand.tmp 57) (errV 47 (if goodF f then (if goodTime now then 5 else 4) else 9)) (.iface 47 (.int .i64 9)); binOp .eql 26 (errV 47 (if goodF f then (if goodTime now then 5 else 4) else 9)) (.iface 47 (.int .i64 9))) 58 (.bool (decide ((if goodF f then (if goodTime now then 5 else 4) else 9) = (9 : Int)))) (by kernel_rfl) (hr116 _) ?_
        refine WL.runs 2 [(60, .bool (decide ((if goodF f then (if goodTime now then 5 else 4) else 9) = (9 : Int)))), (59, .bool (decide ((if goodF f then (if goodTime now then 5 else 4) else 9) = (9 : Int))))] (fun _ => by kernel_rfl) ?_
        refine WL.know 60 (.bool (decide ((if goodF f then (if goodTime now then 5 else 4) else 9) = (9 : Int)))) (.bool true) rfl (congrArg Value.bool (by simp [goodTime, t105, t105b, t113, t113b, t56, t56b] <;> omega)) ?_
        refine WL.runs 14 [(74, .pointer (some ⟨g3, 1, none⟩)), (73, .pointer none), (72, .bool true), (71, .bool true), (70, .bool true), (69, .int .i64 0), (68, .bool true), (67, .bool true), (66, .bool true), (65, .int .i64 0), (64, .bool true), (63, .bool true), (62, .bool true), (61, .bool false)] (fun _ => by kernel_rfl) ?_
        refine WL.load 32 (.pointer (some ⟨g3, 1, none⟩)) (.agg #[.int .i64 f.proto, .int .u32 f.src, .int .i64 f.sport, .int .u32 f.dst, .int .i64 f.dport]) 75 (by kernel_rfl) (run_ld (hC112.get 0 rfl) rfl) ?_
        refine WL.runs 1 [(76, .pointer (some ⟨g3, 9, none⟩))] (fun _ => by kernel_rfl) ?_
        refine WL.load 3 (.pointer (some ⟨g3, 9, none⟩)) (.int .i64 flags) 77 (by kernel_rfl) (run_ld (hC112.get 0 rfl) rfl) ?_
        refine WL.runs 1 [(78, .pointer (some ⟨g3, 10, none⟩))] (fun _ => by kernel_rfl) ?_
        refine WL.load 3 (.pointer (some ⟨g3, 10, none⟩)) (.int .i64 now) 79 (by kernel_rfl) (run_ld (hC112.get 0 rfl) rfl) ?_
        refine WL.call rfl rfl rfl rfl rfl (by kernel_rfl) (Touch_nil f flags now w111) ?_
        rintro _ w118 ⟨rfl, hF117⟩
        refine ⟨_, rfl, ?_⟩
        have hC119 := hC112.call hF117
        refine WL.runs 5 [(85, .pointer (some ⟨g3, 1, none⟩)), (84, .pointer none), (83, .bool true), (82, .bool true), (81, .bool true)] (fun _ => by kernel_rfl) ?_
        refine WL.load 32 (.pointer (some ⟨g3, 1, none⟩)) (.agg #[.int .i64 f.proto, .int .u32 f.src, .int .i64 f.sport, .int .u32 f.dst, .int .i64 f.dport]) 86 (by kernel_rfl) (run_ld (hC119.get 0 rfl) rfl) ?_
        refine WL.newM hC119 (fun b => .slice (some ⟨b, 0, none⟩) 1 1) (.cells #[.int .i64 f.proto, .int .u32 f.src, .int .i64 f.sport, .int .u32 f.dst, .int .i64 f.dport] 32) 87 (fun _ => by kernel_rfl) (fun g120 w121 hb124 hF122 hC123 => ?_)
        refine WL.call rfl rfl rfl rfl rfl (by kernel_rfl) (Remove_nil (some ⟨g120, 0, none⟩) 1 [f] w121 (Rd.blk (xs := [f]) (hC123.get 3 rfl) cellsF_len rfl) (by simp)) ?_
        rintro _ w126 ⟨rfl, hF125⟩
        refine ⟨_, rfl, ?_⟩
        have hC127 := hC123.call hF125
        refine WL.runs 5 [(93, .pointer (some ⟨g3, 10, none⟩)), (92, .pointer none), (91, .bool true), (90, .bool true), (89, .bool true)] (fun _ => by kernel_rfl) ?_
        refine WL.load 3 (.pointer (some ⟨g3, 10, none⟩)) (.int .i64 now) 94 (by kernel_rfl) (run_ld (hC127.get 0 rfl) rfl) ?_
        refine WL.call rfl rfl rfl rfl rfl (by kernel_rfl) (Expire_nil now w126) ?_
        rintro _ w129 ⟨rfl, hF128⟩
        refine ⟨_, rfl, ?_⟩
        have hC130 := hC127.call hF128
        refine WL.runs 5 [(100, .pointer none), (99, .bool true), (98, .bool true), (97, .bool true), (96, .int .i64 0)] (fun _ => by kernel_rfl) ?_
        refine WL.call rfl rfl rfl rfl rfl (by kernel_rfl) (All_nil w129) ?_
        rintro _ w132 ⟨rfl, hF131⟩
        refine ⟨_, rfl, ?_⟩
        have hC133 := hC130.call hF131
        refine WL.runs 4 [(2, .bool true), (104, .bool true), (103, .bool true), (102, .int .i64 0)] (fun _ => by kernel_rfl) ?_
        refine WL.done rfl ?_
        refine QX.then_normal (hK115 _ _ ?_)
        refine WC.ret ?_
        refine (hret _ _ _ rfl ?_).1
        clear hN hret hret' hK115 hK109 hK107 hK55 hK53 hK51 hK46 hK32 hK18 hK16 hK11 hK9 hK2
        exact ⟨rfl, hC133.fr⟩
      · -- (!(goodF f)) = true: false
        have t113 : (goodF f) = true := by first | (simpa only [Bool.not_eq_true', Bool.not_eq_false'] using t113b) | simpa using t113b
        refine WC.cond_false rfl ?_
        refine WC.skip ?_
        refine QX.then_normal (hK107 _ _ ?_)
        refine WC.seq (fun K134 hK135 => ?_)
        refine WC.region ?_
        refine WL.runs 6 [(57, .iface 47 (.int .i64 4)), (56, .int .i64 4), (55, errV 47 (if goodF f then (if goodTime now then 5 else 4) else 9)), (54, .bool true), (53, .bool true), (52, .bool false)] (fun _ => by kernel_rfl) ?_
        have hr136 : ∀ w_, Sem.run Try.prog (do eqGuard .eql 26 (Operand.tmp 55) (Operand.tmp 57) (errV 47 (if goodF f then (if goodTime now then 5 else 4) else 9)) (.iface 47 (.int .i64 4)); binOp .eql 26 (errV 47 (if goodF f then (if goodTime now then 5 else 4) else 9)) (.iface 47 (.int .i64 4))) w_ = .ok (.bool (decide ((if goodF f then (if goodTime now then 5 else 4) else 9) = (4 : Int)))) w_ := fun w_ => (err_eqlc _ _ (if goodF f then (if goodTime now then 5 else 4) else 9) 4 (by decide) _)
        refine WL.sem (do eqGuard .eql 26 (Operand.tmp 55) (Operand.tmp 57) (errV 47 (if goodF f then (if goodTime now then 5 else 4) else 9)) (.iface 47 (.int .i64 4)); binOp .eql 26 (errV 47 (if goodF f then (if goodTime now then 5 else 4) else 9)) (.iface 47 (.int .i64 4))) 58 (.bool (decide ((if goodF f then (if goodTime now then 5 else 4) else 9) = (4 : Int)))) (by kernel_rfl) (hr136 _) ?_
        refine WL.runs 2 [(60, .bool (decide ((if goodF f then (if goodTime now then 5 else 4) else 9) = (4 : Int)))), (59, .bool (decide ((if goodF f then (if goodTime now then 5 else 4) else 9) = (4 : Int))))] (fun _ => by kernel_rfl) ?_
        refine WL.know 60 (.bool (decide ((if goodF f then (if goodTime now then 5 else 4) else 9) = (4 : Int)))) (.bool true) rfl (congrArg Value.bool (by simp [goodTime, t105, t105b, t113, t113b, t56, t56b] <;> omega)) ?_
        refine WL.runs 14 [(74, .pointer (some ⟨g3, 1, none⟩)), (73, .pointer none), (72, .bool true), (71, .bool true), (70, .bool true), (69, .int .i64 0), (68, .bool true), (67, .bool true), (66, .bool true), (65, .int .i64 0), (64, .bool true), (63, .bool true), (62, .bool true), (61, .bool false)] (fun _ => by kernel_rfl) ?_
        refine WL.load 32 (.pointer (some ⟨g3, 1, none⟩)) (.agg #[.int .i64 f.proto, .int .u32 f.src, .int .i64 f.sport, .int .u32 f.dst, .int .i64 f.dport]) 75 (by kernel_rfl) (run_ld (hC112.get 0 rfl) rfl) ?_
        refine WL.runs 1 [(76, .pointer (some ⟨g3, 9, none⟩))] (fun _ => by kernel_rfl) ?_
        refine WL.load 3 (.pointer (some ⟨g3, 9, none⟩)) (.int .i64 flags) 77 (by kernel_rfl) (run_ld (hC112.get 0 rfl) rfl) ?_
        refine WL.runs 1 [(78, .pointer (some ⟨g3, 10, none⟩))] (fun _ => by kernel_rfl) ?_
        refine WL.load 3 (.pointer (some ⟨g3, 10, none⟩)) (.int .i64 now) 79 (by kernel_rfl) (run_ld (hC112.get 0 rfl) rfl) ?_
        refine WL.call rfl rfl rfl rfl rfl (by kernel_rfl) (Touch_nil f flags now w111) ?_
        rintro _ w138 ⟨rfl, hF137⟩
        refine ⟨_, rfl, ?_⟩
        have hC139 := hC112.call hF137
        refine WL.runs 5 [(85, .pointer (some ⟨g3, 1, none⟩)), (84, .pointer none), (83, .bool true), (82, .bool true), (81, .bool true)] (fun _ => by kernel_rfl) ?_
        refine WL.load 32 (.pointer (some ⟨g3, 1, none⟩)) (.agg #[.int .i64 f.proto, .int .u32 f.src, .int .i64 f.sport, .int .u32 f.dst, .int .i64 f.dport]) 86 (by kernel_rfl) (run_ld (hC139.get 0 rfl) rfl) ?_
        refine WL.newM hC139 (fun b => .slice (some ⟨b, 0, none⟩) 1 1) (.cells #[.int .i64 f.proto, .int .u32 f.src, .int .i64 f.sport, .int .u32 f.dst, .int .i64 f.dport] 32) 87 (fun _ => by kernel_rfl) (fun g140 w141 hb144 hF142 hC143 => ?_)
        refine WL.call rfl rfl rfl rfl rfl (by kernel_rfl) (Remove_nil (some ⟨g140, 0, none⟩) 1 [f] w141 (Rd.blk (xs := [f]) (hC143.get 3 rfl) cellsF_len rfl) (by simp)) ?_
        rintro _ w146 ⟨rfl, hF145⟩
        refine ⟨_, rfl, ?_⟩
        have hC147 := hC143.call hF145
        refine WL.runs 5 [(93, .pointer (some ⟨g3, 10, none⟩)), (92, .pointer none), (91, .bool true), (90, .bool true), (89, .bool true)] (fun _ => by kernel_rfl) ?_
        refine WL.load 3 (.pointer (some ⟨g3, 10, none⟩)) (.int .i64 now) 94 (by kernel_rfl) (run_ld (hC147.get 0 rfl) rfl) ?_
        refine WL.call rfl rfl rfl rfl rfl (by kernel_rfl) (Expire_nil now w146) ?_
        rintro _ w149 ⟨rfl, hF148⟩
        refine ⟨_, rfl, ?_⟩
        have hC150 := hC147.call hF148
        refine WL.runs 5 [(100, .pointer none), (99, .bool true), (98, .bool true), (97, .bool true), (96, .int .i64 0)] (fun _ => by kernel_rfl) ?_
        refine WL.call rfl rfl rfl rfl rfl (by kernel_rfl) (All_nil w149) ?_
        rintro _ w152 ⟨rfl, hF151⟩
        refine ⟨_, rfl, ?_⟩
        have hC153 := hC150.call hF151
        refine WL.runs 4 [(2, .bool true), (104, .bool true), (103, .bool true), (102, .int .i64 0)] (fun _ => by kernel_rfl) ?_
        refine WL.done rfl ?_
        refine QX.then_normal (hK135 _ _ ?_)
        refine WC.ret ?_
        refine (hret _ _ _ rfl ?_).1
        clear hN hret hret' hK135 hK109 hK107 hK55 hK53 hK51 hK46 hK32 hK18 hK16 hK11 hK9 hK2
        exact ⟨rfl, hC153.fr⟩
    · -- now > 1099511627776: false
      have t105 : now ≤ 1099511627776 := by have q_ := of_decide_eq_false t105b; omega
      refine WC.cond_false rfl ?_
      refine WC.skip ?_
      refine QX.then_normal (hK53 _ _ ?_)
      refine WC.seq (fun K154 hK155 => ?_)
      refine WC.seq (fun K156 hK157 => ?_)
      refine WC.region ?_
      refine WL.runs 1 [(48, .pointer (some ⟨g3, 1, none⟩))] (fun _ => by kernel_rfl) ?_
      refine WL.load 32 (.pointer (some ⟨g3, 1, none⟩)) (.agg #[.int .i64 f.proto, .int .u32 f.src, .int .i64 f.sport, .int .u32 f.dst, .int .i64 f.dport]) 49 (by kernel_rfl) (run_ld (hC49.get 0 rfl) rfl) ?_
      refine WL.call rfl rfl rfl rfl rfl (by kernel_rfl) (Good1_ct f w48) ?_
      rintro _ w159 ⟨rfl, hF158⟩
      refine ⟨_, rfl, ?_⟩
      have hC160 := hC49.call hF158
      refine WL.runs 1 [(51, .bool (!(goodF f)))] (fun _ => by kernel_rfl) ?_
      refine WL.done rfl ?_
      refine QX.then_normal (hK157 _ _ ?_)
      refine WC.test_at 51 (!(goodF f)) rfl (fun t161b => ?_) (fun t161b => ?_)
      · -- (!(goodF f)) = true: true
        have t161 : (goodF f) = false := by first | (simpa only [Bool.not_eq_true', Bool.not_eq_false'] using t161b) | simpa using t161b
        refine WC.cond_true rfl ?_
        refine WC.region ?_
        refine WL.runs 1 [(11, .int .i64 9)] (fun _ => by kernel_rfl) ?_
        refine WL.done rfl ?_
        refine QX.then_normal (hK155 _ _ ?_)
        refine WC.seq (fun K162 hK163 => ?_)
        refine WC.region ?_
        refine WL.runs 6 [(57, .iface 47 (.int .i64 9)), (56, .int .i64 9), (55, errV 47 (if goodF f then (if goodTime now then 5 else 4) else 9)), (54, .bool true), (53, .bool true), (52, .bool false)] (fun _ => by kernel_rfl) ?_
        have hr164 : ∀ w_, Sem.run Try.prog (do eqGuard .eql 26 (Operand.tmp 55) (Operand.tmp 57) (errV 47 (if goodF f then (if goodTime now then 5 else 4) else 9)) (.iface 47 (.int .i64 9)); binOp .eql 26 (errV 47 (if goodF f then (if goodTime now then 5 else 4) else 9)) (.iface 47 (.int .i64 9))) w_ = .ok (.bool (decide ((if goodF f then (if goodTime now then 5 else 4) else 9) = (9 : Int)))) w_ := fun w_ => (err_eqlc _ _ (if goodF f then (if goodTime now then 5 else 4) else 9) 9 (by decide) _)
        refine WL.sem (do eqGuard .eql 26 (Operand.tmp 55) (Operand.tmp 57) (errV 47 (if goodF f then (if goodTime now then 5 else 4) else 9)) (.iface 47 (.int .i64 9)); binOp .eql 26 (errV 47 (if goodF f then (if goodTime now then 5 else 4) else 9)) (.iface 47 (.int .i64 9))) 58 (.bool (decide ((if goodF f then (if goodTime now then 5 else 4) else 9) = (9 : Int)))) (by kernel_rfl) (hr164 _) ?_
        refine WL.runs 2 [(60, .bool (decide ((if goodF f then (if goodTime now then 5 else 4) else 9) = (9 : Int)))), (59, .bool (decide ((if goodF f then (if goodTime now then 5 else 4) else 9) = (9 : Int))))] (fun _ => by kernel_rfl) ?_
        refine WL.know 60 (.bool (decide ((if goodF f then (if goodTime now then 5 else 4) else 9) = (9 : Int)))) (.bool true) rfl (congrArg Value.bool (by simp [goodTime, t105, t105b, t161, t161b, t56, t56b] <;> omega)) ?_
        refine WL.runs 14 [(74, .pointer (some ⟨g3, 1, none⟩)), (73, .pointer none), (72, .bool true), (71, .bool true), (70, .bool true), (69, .int .i64 0), (68, .bool true), (67, .bool true), (66, .bool true), (65, .int .i64 0), (64, .bool true), (63, .bool true), (62, .bool true), (61, .bool false)] (fun _ => by kernel_rfl) ?_
        refine WL.load 32 (.pointer (some ⟨g3, 1, none⟩)) (.agg #[.int .i64 f.proto, .int .u32 f.src, .int .i64 f.sport, .int .u32 f.dst, .int .i64 f.dport]) 75 (by kernel_rfl) (run_ld (hC160.get 0 rfl) rfl) ?_
        refine WL.runs 1 [(76, .pointer (some ⟨g3, 9, none⟩))] (fun _ => by kernel_rfl) ?_
        refine WL.load 3 (.pointer (some ⟨g3, 9, none⟩)) (.int .i64 flags) 77 (by kernel_rfl) (run_ld (hC160.get 0 rfl) rfl) ?_
        refine WL.runs 1 [(78, .pointer (some ⟨g3, 10, none⟩))] (fun _ => by kernel_rfl) ?_
        refine WL.load 3 (.pointer (some ⟨g3, 10, none⟩)) (.int .i64 now) 79 (by kernel_rfl) (run_ld (hC160.get 0 rfl) rfl) ?_
        refine WL.call rfl rfl rfl rfl rfl (by kernel_rfl) (Touch_nil f flags now w159) ?_
        rintro _ w166 ⟨rfl, hF165⟩
        refine ⟨_, rfl, ?_⟩
        have hC167 := hC160.call hF165
        refine WL.runs 5 [(85, .pointer (some ⟨g3, 1, none⟩)), (84, .pointer none), (83, .bool true), (82, .bool true), (81, .bool true)] (fun _ => by kernel_rfl) ?_
        refine WL.load 32 (.pointer (some ⟨g3, 1, none⟩)) (.agg #[.int .i64 f.proto, .int .u32 f.src, .int .i64 f.sport, .int .u32 f.dst, .int .i64 f.dport]) 86 (by kernel_rfl) (run_ld (hC167.get 0 rfl) rfl) ?_
        refine WL.newM hC167 (fun b => .slice (some ⟨b, 0, none⟩) 1 1) (.cells #[.int .i64 f.proto, .int .u32 f.src, .int .i64 f.sport, .int .u32 f.dst, .int .i64 f.dport] 32) 87 (fun _ => by kernel_rfl) (fun g168 w169 hb172 hF170 hC171 => ?_)
        refine WL.call rfl rfl rfl rfl rfl (by kernel_rfl) (Remove_nil (some ⟨g168, 0, none⟩) 1 [f] w169 (Rd.blk (xs := [f]) (hC171.get 3 rfl) cellsF_len rfl) (by simp)) ?_
        rintro _ w174 ⟨rfl, hF173⟩
        refine ⟨_, rfl, ?_⟩
        have hC175 := hC171.call hF173
        refine WL.runs 5 [(93, .pointer (some ⟨g3, 10, none⟩)), (92, .pointer none), (91, .bool true), (90, .bool true), (89, .bool true)] (fun _ => by kernel_rfl) ?_
        refine WL.load 3 (.pointer (some ⟨g3, 10, none⟩)) (.int .i64 now) 94 (by kernel_rfl) (run_ld (hC175.get 0 rfl) rfl) ?_
        refine WL.call rfl rfl rfl rfl rfl (by kernel_rfl) (Expire_nil now w174) ?_
        rintro _ w177 ⟨rfl, hF176⟩
        refine ⟨_, rfl, ?_⟩
        have hC178 := hC175.call hF176
        refine WL.runs 5 [(100, .pointer none), (99, .bool true), (98, .bool true), (97, .bool true), (96, .int .i64 0)] (fun _ => by kernel_rfl) ?_
        refine WL.call rfl rfl rfl rfl rfl (by kernel_rfl) (All_nil w177) ?_
        rintro _ w180 ⟨rfl, hF179⟩
        refine ⟨_, rfl, ?_⟩
        have hC181 := hC178.call hF179
        refine WL.runs 4 [(2, .bool true), (104, .bool true), (103, .bool true), (102, .int .i64 0)] (fun _ => by kernel_rfl) ?_
        refine WL.done rfl ?_
        refine QX.then_normal (hK163 _ _ ?_)
        refine WC.ret ?_
        refine (hret _ _ _ rfl ?_).1
        clear hN hret hret' hK163 hK157 hK155 hK55 hK53 hK51 hK46 hK32 hK18 hK16 hK11 hK9 hK2
        exact ⟨rfl, hC181.fr⟩
      · -- (!(goodF f)) = true: false
        have t161 : (goodF f) = true := by first | (simpa only [Bool.not_eq_true', Bool.not_eq_false'] using t161b) | simpa using t161b
        refine WC.cond_false rfl ?_
        refine WC.skip ?_
        refine QX.then_normal (hK155 _ _ ?_)
        refine WC.seq (fun K182 hK183 => ?_)
        refine WC.region ?_
        refine WL.runs 6 [(57, .iface 47 (.int .i64 5)), (56, .int .i64 5), (55, errV 47 (if goodF f then (if goodTime now then 5 else 4) else 9)), (54, .bool true), (53, .bool true), (52, .bool false)] (fun _ => by kernel_rfl) ?_
        have hr184 : ∀ w_, Sem.run Try.prog (do eqGuard .eql 26 (Operand.tmp 55) (Operand.tmp 57) (errV 47 (if goodF f then (if goodTime now then 5 else 4) else 9)) (.iface 47 (.int .i64 5)); binOp .eql 26 (errV 47 (if goodF f then (if goodTime now then 5 else 4) else 9)) (.iface 47 (.int .i64 5))) w_ = .ok (.bool (decide ((if goodF f then (if goodTime now then 5 else 4) else 9) = (5 : Int)))) w_ := fun w_ => (err_eqlc _ _ (if goodF f then (if goodTime now then 5 else 4) else 9) 5 (by decide) _)
        refine WL.sem (do eqGuard .eql 26 (Operand.tmp 55) (Operand.tmp 57) (errV 47 (if goodF f then (if goodTime now then 5 else 4) else 9)) (.iface 47 (.int .i64 5)); binOp .eql 26 (errV 47 (if goodF f then (if goodTime now then 5 else 4) else 9)) (.iface 47 (.int .i64 5))) 58 (.bool (decide ((if goodF f then (if goodTime now then 5 else 4) else 9) = (5 : Int)))) (by kernel_rfl) (hr184 _) ?_
        refine WL.runs 2 [(60, .bool (decide ((if goodF f then (if goodTime now then 5 else 4) else 9) = (5 : Int)))), (59, .bool (decide ((if goodF f then (if goodTime now then 5 else 4) else 9) = (5 : Int))))] (fun _ => by kernel_rfl) ?_
        refine WL.know 60 (.bool (decide ((if goodF f then (if goodTime now then 5 else 4) else 9) = (5 : Int)))) (.bool true) rfl (congrArg Value.bool (by simp [goodTime, t105, t105b, t161, t161b, t56, t56b] <;> omega)) ?_
        refine WL.runs 14 [(74, .pointer (some ⟨g3, 1, none⟩)), (73, .pointer none), (72, .bool true), (71, .bool true), (70, .bool true), (69, .int .i64 0), (68, .bool true), (67, .bool true), (66, .bool true), (65, .int .i64 0), (64, .bool true), (63, .bool true), (62, .bool true), (61, .bool false)] (fun _ => by kernel_rfl) ?_
        refine WL.load 32 (.pointer (some ⟨g3, 1, none⟩)) (.agg #[.int .i64 f.proto, .int .u32 f.src, .int .i64 f.sport, .int .u32 f.dst, .int .i64 f.dport]) 75 (by kernel_rfl) (run_ld (hC160.get 0 rfl) rfl) ?_
        refine WL.runs 1 [(76, .pointer (some ⟨g3, 9, none⟩))] (fun _ => by kernel_rfl) ?_
        refine WL.load 3 (.pointer (some ⟨g3, 9, none⟩)) (.int .i64 flags) 77 (by kernel_rfl) (run_ld (hC160.get 0 rfl) rfl) ?_
        refine WL.runs 1 [(78, .pointer (some ⟨g3, 10, none⟩))] (fun _ => by kernel_rfl) ?_
        refine WL.load 3 (.pointer (some ⟨g3, 10, none⟩)) (.int .i64 now) 79 (by kernel_rfl) (run_ld (hC160.get 0 rfl) rfl) ?_
        refine WL.call rfl rfl rfl rfl rfl (by kernel_rfl) (Touch_nil f flags now w159) ?_
        rintro _ w186 ⟨rfl, hF185⟩
        refine ⟨_, rfl, ?_⟩
        have hC187 := hC160.call hF185
        refine WL.runs 5 [(85, .pointer (some ⟨g3, 1, none⟩)), (84, .pointer none), (83, .bool true), (82, .bool true), (81, .bool true)] (fun _ => by kernel_rfl) ?_
        refine WL.load 32 (.pointer (some ⟨g3, 1, none⟩)) (.agg #[.int .i64 f.proto, .int .u32 f.src, .int .i64 f.sport, .int .u32 f.dst, .int .i64 f.dport]) 86 (by kernel_rfl) (run_ld (hC187.get 0 rfl) rfl) ?_
        refine WL.newM hC187 (fun b => .slice (some ⟨b, 0, none⟩) 1 1) (.cells #[.int .i64 f.proto, .int .u32 f.src, .int .i64 f.sport, .int .u32 f.dst, .int .i64 f.dport] 32) 87 (fun _ => by kernel_rfl) (fun g188 w189 hb192 hF190 hC191 => ?_)
        refine WL.call rfl rfl rfl rfl rfl (by kernel_rfl) (Remove_nil (some ⟨g188, 0, none⟩) 1 [f] w189 (Rd.blk (xs := [f]) (hC191.get 3 rfl) cellsF_len rfl) (by simp)) ?_
        rintro _ w194 ⟨rfl, hF193⟩
        refine ⟨_, rfl, ?_⟩
        have hC195 := hC191.call hF193
        refine WL.runs 5 [(93, .pointer (some ⟨g3, 10, none⟩)), (92, .pointer none), (91, .bool true), (90, .bool true), (89, .bool true)] (fun _ => by kernel_rfl) ?_
        refine WL.load 3 (.pointer (some ⟨g3, 10, none⟩)) (.int .i64 now) 94 (by kernel_rfl) (run_ld (hC195.get 0 rfl) rfl) ?_
        refine WL.call rfl rfl rfl rfl rfl (by kernel_rfl) (Expire_nil now w194) ?_
        rintro _ w197 ⟨rfl, hF196⟩
        refine ⟨_, rfl, ?_⟩
        have hC198 := hC195.call hF196
        refine WL.runs 5 [(100, .pointer none), (99, .bool true), (98, .bool true), (97, .bool true), (96, .int .i64 0)] (fun _ => by kernel_rfl) ?_
        refine WL.call rfl rfl rfl rfl rfl (by kernel_rfl) (All_nil w197) ?_
        rintro _ w200 ⟨rfl, hF199⟩
        refine ⟨_, rfl, ?_⟩
        have hC201 := hC198.call hF199
        refine WL.runs 4 [(2, .bool true), (104, .bool true), (103, .bool true), (102, .int .i64 0)] (fun _ => by kernel_rfl) ?_
        refine WL.done rfl ?_
        refine QX.then_normal (hK183 _ _ ?_)
        refine WC.ret ?_
        refine (hret _ _ _ rfl ?_).1
        clear hN hret hret' hK183 hK157 hK155 hK55 hK53 hK51 hK46 hK32 hK18 hK16 hK11 hK9 hK2
        exact ⟨rfl, hC201.fr⟩

set_option maxHeartbeats 1000000 in
theorem FlowOldest_ct (n pick now : Int) (w : World) (hnw : -9223372036854775808 ≤ now ∧ now ≤ 9223372036854775807) : Calls Try.prog 3 #[.int .i64 n, .int .i64 pick, .int .i64 now] w fun e w' => e = .returned (.bool true) ∧ Fr w w' [] := by
  refine enterD (n := 89) Try.func3 rfl rfl (Nat.le_of_ble_eq_true rfl) ?_
  intro Q0 hN hret hret'
  have hC := Cx.start w
  refine WC.seq (fun K1 hK2 => ?_)
  refine WC.region ?_
  refine WL.runs 1 [(6, .bool false)] (fun _ => by kernel_rfl) ?_
  refine WL.done rfl ?_
  refine QX.then_normal (hK2 _ _ ?_)
  refine WC.seq (fun K3 hK4 => ?_)
  refine WC.seq (fun K5 hK6 => ?_)
  refine WC.region ?_
  refine WL.call rfl rfl rfl rfl rfl (by kernel_rfl) (alive_ct w) ?_
  rintro _ w8 ⟨rfl, hF7⟩
  refine ⟨_, rfl, ?_⟩
  have hC9 := hC.call hF7
  refine WL.runs 1 [(15, .bool false)] (fun _ => by kernel_rfl) ?_
  refine WL.done rfl ?_
  refine QX.then_normal (hK6 _ _ ?_)
  refine WC.cond_false rfl ?_
  refine WC.skip ?_
  refine QX.then_normal (hK4 _ _ ?_)
  refine WC.seq (fun K10 hK11 => ?_)
  refine WC.region ?_
  obtain ⟨u, hu, hu0⟩ : ∃ u : Int, IntKind.u64.wrap (n) = u ∧ (0 ≤ u ∧ u ≤ 18446744073709551615) := ⟨_, rfl, wrap_u64_span _⟩
  refine WL.runs 2 [(17, .int .u64 (IntKind.u64.wrap (n))), (16, .int .i64 n)] (fun _ => by kernel_rfl) ?_
  refine WL.recast (show (.int .u64 (IntKind.u64.wrap (n)) : Value) = .int .u64 u from by rw [hu]) ?_
  obtain ⟨d, hd, hd0⟩ : ∃ d : Nat, Int.tmod u 40 = (d : Int) ∧ d < 40 := ⟨(u % 40).toNat, by rw [Int.tmod_eq_emod_of_nonneg hu0.1]; omega, by omega⟩
  refine WL.runs 1 [(18, .int .u64 (Int.tmod u 40))] (fun _ => by kernel_rfl) ?_
  refine WL.recast (show (.int .u64 (Int.tmod u 40) : Value) = .int .u64 (d : Int) from by rw [hd]) ?_
  refine WL.runs 1 [(19, .int .i64 (IntKind.i64.wrap ((d : Int))))] (fun _ => by kernel_rfl) ?_
  refine WL.recast (show (.int .i64 (IntKind.i64.wrap ((d : Int))) : Value) = .int .i64 (d : Int) from by rw [wrap_in_i64 _ (by omega) (by omega)]) ?_
  obtain ⟨N, hN_, hN1, hN2⟩ : ∃ N : Nat, (N : Int) = 1 + (d : Int) ∧ 1 ≤ N ∧ N ≤ 40 := ⟨1 + d, by omega, by omega, by omega⟩
  refine WL.runs 1 [(20, .int .i64 (IntKind.i64.wrap (1 + (d : Int))))] (fun _ => by kernel_rfl) ?_
  refine WL.recast (show (.int .i64 (IntKind.i64.wrap (1 + (d : Int))) : Value) = .int .i64 (N : Int) from by rw [wrap_in_i64 _ (by omega) (by omega), hN_]) ?_
  refine WL.runs 1 [(0, .int .i64 (N : Int))] (fun _ => by kernel_rfl) ?_
  refine WL.done rfl ?_
  refine QX.then_normal (hK11 _ _ ?_)
  refine WC.seq (fun K12 hK13 => ?_)
  refine WC.seq (fun K14 hK15 => ?_)
  refine WC.region ?_
  refine WL.runs 3 [(23, .bool (decide (now < 0))), (22, .bool (decide (now < 0))), (21, .int .i64 now)] (fun _ => by kernel_rfl) ?_
  refine WL.test_at 23 (decide (now < 0)) rfl (fun t16b => ?_) (fun t16b => ?_)
  · -- now < 0: true
    have t16 : now < 0 := by have q_ := of_decide_eq_true t16b; omega
    refine WL.runs 3 [(26, .bool true), (25, undef), (24, undef)] (fun _ => by kernel_rfl) ?_
    refine WL.done rfl ?_
    refine QX.then_normal (hK15 _ _ ?_)
    refine WC.cond_true rfl ?_
    refine WC.seq (fun K17 hK18 => ?_)
    refine WC.region ?_
    refine WL.runs 1 [(6, .bool true)] (fun _ => by kernel_rfl) ?_
    refine WL.done rfl ?_
    refine QX.then_normal (hK18 _ _ ?_)
    refine WC.ret ?_
    refine QX.then_ret ?_
    refine (hret _ _ _ rfl ?_).1
    clear hN hret hret' hK18 hK15 hK13 hK11 hK6 hK4 hK2
    exact ⟨rfl, hC9.fr⟩
  · -- now < 0: false
    have t16 : (0 : Int) ≤ now := by have q_ := of_decide_eq_false t16b; omega
    refine WL.runs 3 [(26, .bool (decide (now > 549755813888))), (25, .bool (decide (now > 549755813888))), (24, .int .i64 now)] (fun _ => by kernel_rfl) ?_
    refine WL.done rfl ?_
    refine QX.then_normal (hK15 _ _ ?_)
    refine WC.test_at 26 (decide (now > 549755813888)) rfl (fun t19b => ?_) (fun t19b => ?_)
    · -- now > 549755813888: true
      have t19 : (549755813888 : Int) < now := by have q_ := of_decide_eq_true t19b; omega
      refine WC.cond_true rfl ?_
      refine WC.seq (fun K20 hK21 => ?_)
      refine WC.region ?_
      refine WL.runs 1 [(6, .bool true)] (fun _ => by kernel_rfl) ?_
      refine WL.done rfl ?_
      refine QX.then_normal (hK21 _ _ ?_)
      refine WC.ret ?_
      refine QX.then_ret ?_
      refine (hret _ _ _ rfl ?_).1
      clear hN hret hret' hK21 hK15 hK13 hK11 hK6 hK4 hK2
      exact ⟨rfl, hC9.fr⟩
    · -- now > 549755813888: false
      have t19 : now ≤ 549755813888 := by have q_ := of_decide_eq_false t19b; omega
      refine WC.cond_false rfl ?_
      refine WC.skip ?_
      refine QX.then_normal (hK13 _ _ ?_)
      refine WC.seq (fun K22 hK23 => ?_)
      refine WC.region ?_
      refine WL.runs 1 [(28, .int .i64 (N : Int))] (fun _ => by kernel_rfl) ?_
      refine WL.call rfl rfl rfl rfl rfl (by kernel_rfl) (New_ct 1 (N : Int) w8 (by omega) (by omega)) ?_
      rintro _ w27 ⟨p24, b25, rfl, hF26, hT29, hge30, hge31⟩
      have hC28 := hC9.callN hF26 (G := [p24, b25]) (fun x_ hx_ => by simp at hx_; rcases hx_ with rfl | rfl; exact hge30; exact hge31) (tbAt_lt hT29)
      refine ⟨_, rfl, ?_⟩
      refine WL.runs 5 [(8, .nilIface), (7, .pointer (some ⟨p24, 0, none⟩)), (31, .nilIface), (30, .pointer (some ⟨p24, 0, none⟩)), (27, .tuple #[.pointer (some ⟨p24, 0, none⟩), .nilIface])] (fun _ => by kernel_rfl) ?_
      refine WL.done rfl ?_
      refine QX.then_normal (hK23 _ _ ?_)
      refine WC.seq (fun K32 hK33 => ?_)
      refine WC.seq (fun K34 hK35 => ?_)
      refine WC.region ?_
      refine WL.runs 6 [(37, .bool false), (36, .bool false), (35, .pointer (some ⟨p24, 0, none⟩)), (34, .bool false), (33, .bool false), (32, .nilIface)] (fun _ => by kernel_rfl) ?_
      refine WL.done rfl ?_
      refine QX.then_normal (hK35 _ _ ?_)
      refine WC.cond_false rfl ?_
      refine WC.skip ?_
      refine QX.then_normal (hK33 _ _ ?_)
      refine WC.seq (fun K36 hK37 => ?_)
      refine WC.seq (fun K38 hK39 => ?_)
      refine WC.region ?_
      refine WL.runs 1 [(9, .int .i64 0)] (fun _ => by kernel_rfl) ?_
      refine WL.done rfl ?_
      refine QX.then_normal (hK39 _ _ ?_)
      refine WC.block ?_
      have hnow0 : 0 ≤ now := by omega
      have hnow1 : now ≤ 549755813888 := by omega
      refine WC.loop (fun m_ E_ w_ => ∃ (i : Nat), m_ = N - i ∧ E_ = [(0, .int .i64 (N : Int)), (1, .int .i64 pick), (2, .int .i64 now), (6, .bool false), (7, .pointer (some ⟨p24, 0, none⟩)), (8, .nilIface), (9, .int .i64 (i : Int)), (14, .bool true), (15, .bool false), (16, .int .i64 n), (17, .int .u64 u), (18, .int .u64 (d : Int)), (19, .int .i64 (d : Int)), (20, .int .i64 (N : Int)), (21, .int .i64 now), (22, .bool (decide (now < 0))), (23, .bool false), (24, .int .i64 now), (25, .bool (decide (now > 549755813888))), (26, .bool false), (27, .tuple #[.pointer (some ⟨p24, 0, none⟩), .nilIface]), (28, .int .i64 (N : Int)), (29, .tuple #[.pointer (some ⟨p24, 0, none⟩), .nilIface]), (30, .pointer (some ⟨p24, 0, none⟩)), (31, .nilIface), (32, .nilIface), (33, .bool false), (34, .bool false), (35, .pointer (some ⟨p24, 0, none⟩)), (36, .bool false), (37, .bool false)] ∧ Cx w [] w_ [] [[p24, b25]] ∧ tbAt w_ p24 b25 (tbO now N i) ∧ (i ≤ N)) ⟨_, _, ⟨0, rfl, rfl, hC28, (show tbAt _ _ _ (tbO now N 0) from hT29), Nat.zero_le _⟩, sub_of ⟨rfl, rfl, rfl, rfl, rfl, rfl, rfl, rfl, rfl, rfl, rfl, rfl, rfl, rfl, rfl, rfl, rfl, rfl, rfl, rfl, rfl, rfl, rfl, rfl, rfl, rfl, rfl, rfl, rfl, rfl, rfl, trivial⟩⟩ (fun m43 E_ w44 K40 hK41 hI42 => ?_)
      obtain ⟨i, rfl, rfl, hC45, hT0, hi⟩ := hI42
      refine WC.seq (fun K46 hK47 => ?_)
      refine WC.seq (fun K48 hK49 => ?_)
      refine WC.region ?_
      refine WL.runs 3 [(40, .bool (decide ((i : Int) < (N : Int)))), (39, .int .i64 (N : Int)), (38, .int .i64 (i : Int))] (fun _ => by kernel_rfl) ?_
      refine WL.done rfl ?_
      refine QX.then_normal (hK49 _ _ ?_)
      refine WC.test_at 40 (decide ((i : Int) < (N : Int))) rfl (fun t50b => ?_) (fun t50b => ?_)
      · -- (i : Int) < (N : Int): true
        have t50 : (i : Int) < (N : Int) := by have q_ := of_decide_eq_true t50b; omega
        refine WC.cond_true rfl ?_
        refine WC.skip ?_
        refine QX.then_normal (hK47 _ _ ?_)
        refine WC.seq (fun K51 hK52 => ?_)
        refine WC.block ?_
        refine WC.region ?_
        refine WL.runs 2 [(44, .int .i64 (i : Int)), (43, .pointer (some ⟨p24, 0, none⟩))] (fun _ => by kernel_rfl) ?_
        refine WL.call rfl rfl rfl rfl rfl (by kernel_rfl) (example_ct (i : Int) w44) ?_
        rintro _ w54 ⟨rfl, hF53⟩
        refine ⟨_, rfl, ?_⟩
        have hC55 := hC45.call hF53
        have hf56 := tbAt_fr hT0 hF53 (by simp)
        refine WL.runs 3 [(48, .int .i64 (IntKind.i64.wrap (now + (i : Int)))), (47, .int .i64 (i : Int)), (46, .int .i64 now)] (fun _ => by kernel_rfl) ?_
        refine WL.recast (show (.int .i64 (IntKind.i64.wrap (now + (i : Int))) : Value) = .int .i64 (now + (i : Int)) from by rw [wrap_in_i64 (now + (i : Int)) (by omega) (by omega)]) ?_
        refine WL.call rfl rfl rfl rfl rfl (by kernel_rfl) (Put_ct p24 b25 (tbO now N i) (⟨6, 134744072, (i : Int), 16843009, 80⟩ : Flow) 1 1 (now + (i : Int)) w54 hf56 (by first | (dsimp only [al1, al2, al3, tbO]; omega) | omega) (by first | (dsimp only [al1, al2, al3, tbO]; omega) | omega)) ?_
        rintro _ w63 ⟨T57, o58, fd59, er60, rfl, hF62, hT65, hrel61⟩
        obtain ⟨rfl, rfl, rfl, rfl⟩ := put_O (i := i) (by omega) hN2 hnow0 hnow1 hrel61
        have hC64 := hC55.callF 0 rfl hF62 (fun _ hx_ => .inl hx_) (tbAt_lt hT65)
        refine ⟨_, rfl, ?_⟩
        refine WL.done rfl ?_
        refine QX.block_normal ?_
        refine QX.then_normal (hK52 _ _ ?_)
        refine WC.region ?_
        refine WL.runs 2 [(42, .int .i64 (IntKind.i64.wrap ((i : Int) + 1))), (41, .int .i64 (i : Int))] (fun _ => by kernel_rfl) ?_
        refine WL.recast (show (.int .i64 (IntKind.i64.wrap ((i : Int) + 1)) : Value) = .int .i64 ((i + 1 : Nat) : Int) from by rw [wrap_in_i64 _ (by omega) (by omega)]; rfl) ?_
        refine WL.runs 1 [(9, .int .i64 ((i + 1 : Nat) : Int))] (fun _ => by kernel_rfl) ?_
        refine WL.done rfl ?_
        refine QX.then_normal ?_
        have hC66 := hC64.pick [] [0] rfl rfl
        refine fun a_ ha_ => hK41 _ _ _ ?_ ⟨i + 1, rfl, rfl, hC66, hT65, by omega⟩ a_ (ha_.weaken (sub_of ⟨rfl, rfl, rfl, rfl, rfl, rfl, rfl, rfl, rfl, rfl, rfl, rfl, rfl, rfl, rfl, rfl, rfl, rfl, rfl, rfl, rfl, rfl, rfl, rfl, rfl, rfl, rfl, rfl, rfl, rfl, rfl, trivial⟩))
        omega
      · -- (i : Int) < (N : Int): false
        have t50 : (N : Int) ≤ (i : Int) := by have q_ := of_decide_eq_false t50b; omega
        refine WC.cond_false rfl ?_
        have hiN : N = i := by omega
        subst hiN
        refine WC.exit ?_
        refine QX.then_exit ?_
        refine QX.then_exit ?_
        refine QX.block_hit ?_
        refine QX.then_normal (hK37 _ _ ?_)
        refine WC.seq (fun K67 hK68 => ?_)
        refine WC.region ?_
        obtain ⟨u2, hu2, hu3⟩ : ∃ u : Int, IntKind.u64.wrap (pick) = u ∧ (0 ≤ u ∧ u ≤ 18446744073709551615) := ⟨_, rfl, wrap_u64_span _⟩
        refine WL.runs 2 [(51, .int .u64 (IntKind.u64.wrap (pick))), (50, .int .i64 pick)] (fun _ => by kernel_rfl) ?_
        refine WL.recast (show (.int .u64 (IntKind.u64.wrap (pick)) : Value) = .int .u64 u2 from by rw [hu2]) ?_
        refine WL.runs 2 [(53, .int .u64 (IntKind.u64.wrap ((N : Int)))), (52, .int .i64 (N : Int))] (fun _ => by kernel_rfl) ?_
        refine WL.recast (show (.int .u64 (IntKind.u64.wrap ((N : Int))) : Value) = .int .u64 (N : Int) from by rw [wrap_in_u64 _ (by omega) (by omega)]) ?_
        have hr69 : ∀ w_, Sem.run Try.prog (do eqGuard .rem 23 (Operand.tmp 51) (Operand.tmp 53) (.int .u64 u2) (.int .u64 (N : Int)); binOp .rem 23 (.int .u64 u2) (.int .u64 (N : Int))) w_ = .ok (.int .u64 (Int.tmod u2 (N : Int))) w_ := fun w_ => (run_rem (by omega))
        refine WL.sem (do eqGuard .rem 23 (Operand.tmp 51) (Operand.tmp 53) (.int .u64 u2) (.int .u64 (N : Int)); binOp .rem 23 (.int .u64 u2) (.int .u64 (N : Int))) 54 (.int .u64 (Int.tmod u2 (N : Int))) (by kernel_rfl) (hr69 _) ?_
        obtain ⟨q, hq4, hq5⟩ := mod_nat (u := u2) (n := N) hu3.1 (by omega)
        refine WL.recast (show (.int .u64 (Int.tmod u2 (N : Int)) : Value) = .int .u64 (q : Int) from by rw [hq4]) ?_
        refine WL.runs 1 [(55, .int .i64 (IntKind.i64.wrap ((q : Int))))] (fun _ => by kernel_rfl) ?_
        refine WL.recast (show (.int .i64 (IntKind.i64.wrap ((q : Int))) : Value) = .int .i64 (q : Int) from by rw [wrap_in_i64 _ (by omega) (by omega)]) ?_
        refine WL.runs 1 [(10, .int .i64 (q : Int))] (fun _ => by kernel_rfl) ?_
        refine WL.done rfl ?_
        refine QX.then_normal (hK68 _ _ ?_)
        refine WC.seq (fun K70 hK71 => ?_)
        refine WC.region ?_
        refine WL.runs 2 [(57, .int .i64 (q : Int)), (56, .pointer (some ⟨p24, 0, none⟩))] (fun _ => by kernel_rfl) ?_
        refine WL.call rfl rfl rfl rfl rfl (by kernel_rfl) (example_ct (q : Int) w44) ?_
        rintro _ w73 ⟨rfl, hF72⟩
        refine ⟨_, rfl, ?_⟩
        have hC74 := hC45.call hF72
        have hf75 := tbAt_fr hT0 hF72 (by simp)
        refine WL.runs 2 [(60, .int .i64 (IntKind.i64.wrap (now + 100))), (59, .int .i64 now)] (fun _ => by kernel_rfl) ?_
        refine WL.recast (show (.int .i64 (IntKind.i64.wrap (now + 100)) : Value) = .int .i64 (now + 100) from by rw [wrap_in_i64 (now + 100) (by omega) (by omega)]) ?_
        refine WL.call rfl rfl rfl rfl rfl (by kernel_rfl) (Touch_ct p24 b25 (tbO now N N) (⟨6, 134744072, (q : Int), 16843009, 80⟩ : Flow) 2 (now + 100) w73 hf75 (by first | (dsimp only [al1, al2, al3, tbO]; omega) | omega) (by first | (dsimp only [al1, al2, al3, tbO]; omega) | omega)) ?_
        rintro _ w77 ⟨rfl, hF76, hT79⟩
        rw [show touchT (tbO now N N) (⟨6, 134744072, (q : Int), 16843009, 80⟩ : Flow) 2 (now + 100) = (⟨m2O now N q, 0, 1, N, N⟩, true) from touch_O hq5 hnow0 hnow1] at hT79
        have hC78 := hC74.callF 0 rfl hF76 (fun _ hx_ => .inl hx_) (tbAt_lt hT79)
        refine ⟨_, rfl, ?_⟩
        refine WL.done rfl ?_
        refine QX.then_normal (hK71 _ _ ?_)
        refine WC.seq (fun K80 hK81 => ?_)
        refine WC.region ?_
        refine WL.runs 1 [(11, .int .i64 0)] (fun _ => by kernel_rfl) ?_
        refine WL.done rfl ?_
        refine QX.then_normal (hK81 _ _ ?_)
        refine WC.seq (fun K82 hK83 => ?_)
        refine WC.seq (fun K84 hK85 => ?_)
        refine WC.region ?_
        refine WL.runs 3 [(64, .bool ((q : Int) == 0)), (63, .bool ((q : Int) == 0)), (62, .int .i64 (q : Int))] (fun _ => by kernel_rfl) ?_
        refine WL.test_at 64 ((q : Int) == 0) rfl (fun t86b => ?_) (fun t86b => ?_)
        · -- (q : Int) = 0: true
          have t86 : (q : Int) = 0 := by simpa using t86b
          refine WL.runs 3 [(67, .bool (decide ((N : Int) > 1))), (66, .bool (decide ((N : Int) > 1))), (65, .int .i64 (N : Int))] (fun _ => by kernel_rfl) ?_
          refine WL.done rfl ?_
          refine QX.then_normal (hK85 _ _ ?_)
          refine WC.test_at 67 (decide ((N : Int) > 1)) rfl (fun t87b => ?_) (fun t87b => ?_)
          · -- (N : Int) > 1: true
            have t87 : (1 : Int) < (N : Int) := by have q_ := of_decide_eq_true t87b; omega
            refine WC.cond_true rfl ?_
            refine WC.region ?_
            refine WL.runs 1 [(11, .int .i64 1)] (fun _ => by kernel_rfl) ?_
            refine WL.done rfl ?_
            refine QX.then_normal (hK83 _ _ ?_)
            refine WC.seq (fun K88 hK89 => ?_)
            refine WC.region ?_
            refine WL.runs 1 [(69, .pointer (some ⟨p24, 0, none⟩))] (fun _ => by kernel_rfl) ?_
            refine WL.call rfl rfl rfl rfl rfl (by kernel_rfl) (example_ct 1000 w77) ?_
            rintro _ w91 ⟨rfl, hF90⟩
            refine ⟨_, rfl, ?_⟩
            have hC92 := hC78.call hF90
            have hf93 := tbAt_fr hT79 hF90 (by simp)
            refine WL.runs 2 [(72, .int .i64 (IntKind.i64.wrap (now + 101))), (71, .int .i64 now)] (fun _ => by kernel_rfl) ?_
            refine WL.recast (show (.int .i64 (IntKind.i64.wrap (now + 101)) : Value) = .int .i64 (now + 101) from by rw [wrap_in_i64 (now + 101) (by omega) (by omega)]) ?_
            obtain ⟨first, hfirst⟩ : ∃ n_ : Nat, n_ = if q = 0 ∧ 1 < N then 1 else 0 := ⟨_, rfl⟩
            have hfc_ : (first : Int) = 1 := by rw [hfirst]; split <;> omega
            refine WL.call rfl rfl rfl rfl rfl (by kernel_rfl) (Put_ct p24 b25 (⟨m2O now N q, 0, 1, N, N⟩ : Tb) (⟨6, 134744072, 1000, 16843009, 80⟩ : Flow) 2 2 (now + 101) w91 hf93 (by first | (dsimp only [al1, al2, al3, tbO]; omega) | omega) (by first | (dsimp only [al1, al2, al3, tbO]; omega) | omega)) ?_
            rintro _ w100 ⟨T94, o95, fd96, er97, rfl, hF99, hT102, hrel98⟩
            obtain ⟨hof_, rfl, rfl⟩ := put_last hN2 hq5 hnow0 hnow1 first hfirst hrel98
            have hC101 := hC92.callF 0 rfl hF99 (fun _ hx_ => .inl hx_) (tbAt_lt hT102)
            refine ⟨_, rfl, ?_⟩
            refine WL.runs 4 [(76, .nilIface), (75, .bool true), (74, .agg #[.int .i64 o95.flow.proto, .int .u32 o95.flow.src, .int .i64 o95.flow.sport, .int .u32 o95.flow.dst, .int .i64 o95.flow.dport, .int .u32 o95.dip, .int .i64 o95.epoch, .bool o95.trusted, .bool o95.closing, .int .i64 o95.last]), (68, .tuple #[.agg #[.int .i64 o95.flow.proto, .int .u32 o95.flow.src, .int .i64 o95.flow.sport, .int .u32 o95.flow.dst, .int .i64 o95.flow.dport, .int .u32 o95.dip, .int .i64 o95.epoch, .bool o95.trusted, .bool o95.closing, .int .i64 o95.last], .bool true, .nilIface])] (fun _ => by kernel_rfl) ?_
            refine WL.newM hC101 (fun b => .pointer (some ⟨b, 0, none⟩)) (.cells #[.int .i64 0, .int .u32 0, .int .i64 0, .int .u32 0, .int .i64 0, .int .u32 0, .int .i64 0, .bool false, .bool false, .int .i64 0] 34) 12 (fun _ => by kernel_rfl) (fun g103 w104 hb107 hF105 hC106 => ?_)
            have hf108 := tbAt_fr hT102 hF105 (by simp)
            refine WL.storeM (c' := #[.int .i64 o95.flow.proto, .int .u32 o95.flow.src, .int .i64 o95.flow.sport, .int .u32 o95.flow.dst, .int .i64 o95.flow.dport, .int .u32 o95.dip, .int .i64 o95.epoch, .bool o95.trusted, .bool o95.closing, .int .i64 o95.last]) hC106 0 34 g103 0 (.agg #[.int .i64 o95.flow.proto, .int .u32 o95.flow.src, .int .i64 o95.flow.sport, .int .u32 o95.flow.dst, .int .i64 o95.flow.dport, .int .u32 o95.dip, .int .i64 o95.epoch, .bool o95.trusted, .bool o95.closing, .int .i64 o95.last]) (by kernel_rfl) rfl (by kernel_rfl) (fun w109 hF111 hC112 => ?_)
            have hf113 := tbAt_fr hf108 hF111 (hC106.apartM 0 0 rfl rfl)
            refine WL.runs 2 [(8, .nilIface), (13, .bool true)] (fun _ => by kernel_rfl) ?_
            refine WL.done rfl ?_
            refine QX.then_normal (hK89 _ _ ?_)
            refine WC.seq (fun K114 hK115 => ?_)
            refine WC.drawC hC112 [] (by kernel_rfl) (fun w116 hF117 hC118 hS119 => ?_)
            have hf120 := tbAt_fr hf113 hF117 (by simp)
            refine WD.pure (NoPanic.then hN) 0 77 (.nilIface) (by kernel_rfl) (fun _ => by kernel_rfl) hS119 ?_
            refine WD.pure (NoPanic.then hN) 1 78 (.bool true) (by kernel_rfl) (fun _ => by kernel_rfl) hS119 ?_
            refine WD.pure (NoPanic.then hN) 2 79 (.bool true) (by kernel_rfl) (fun _ => by kernel_rfl) hS119 ?_
            refine WD.pure (NoPanic.then hN) 3 80 (.bool true) (by kernel_rfl) (fun _ => by kernel_rfl) hS119 ?_
            refine WD.pure (NoPanic.then hN) 4 81 (.bool true) (by kernel_rfl) (fun _ => by kernel_rfl) hS119 ?_
            refine WD.pure (NoPanic.then hN) 5 82 (.bool true) (by kernel_rfl) (fun _ => by kernel_rfl) hS119 ?_
            refine WD.pure (NoPanic.then hN) 6 83 (.pointer (some ⟨g103, 0, none⟩)) (by kernel_rfl) (fun _ => by kernel_rfl) hS119 ?_
            refine WD.pure (NoPanic.then hN) 8 85 (.int .i64 1) (by kernel_rfl) (fun _ => by kernel_rfl) hS119 ?_
            refine WD.load (NoPanic.then hN) 7 32 (.pointer (some ⟨g103, 0, none⟩)) (.agg #[.int .i64 o95.flow.proto, .int .u32 o95.flow.src, .int .i64 o95.flow.sport, .int .u32 o95.flow.dst, .int .i64 o95.flow.dport]) 84 (by kernel_rfl) (by kernel_rfl) (fun _ hS_ => run_ld (Fr.has hS_ (hC118.get 0 rfl) (by simp)) rfl) hS119 ?_
            refine WD.call 9 (by kernel_rfl) rfl rfl rfl rfl rfl (by kernel_rfl) (example_ct 1 w116) ?_
            rintro _ w122 ⟨rfl, hF121⟩
            have hS124 := hS119.trans hF121 (by simp)
            refine ⟨_, rfl, hS124, ?_⟩
            have hC123 := hC118.call hF121
            have hf125 := tbAt_fr hf120 hF121 (by simp)
            have hr126 : ∀ w_, Sem.run Try.prog (do eqGuard .eql 32 (Operand.tmp 84) (Operand.tmp 86) (.agg #[.int .i64 o95.flow.proto, .int .u32 o95.flow.src, .int .i64 o95.flow.sport, .int .u32 o95.flow.dst, .int .i64 o95.flow.dport]) (.agg #[.int .i64 6, .int .u32 134744072, .int .i64 1, .int .u32 16843009, .int .i64 80]); binOp .eql 32 (.agg #[.int .i64 o95.flow.proto, .int .u32 o95.flow.src, .int .i64 o95.flow.sport, .int .u32 o95.flow.dst, .int .i64 o95.flow.dport]) (.agg #[.int .i64 6, .int .u32 134744072, .int .i64 1, .int .u32 16843009, .int .i64 80])) w_ = .ok (.bool (o95.flow.proto == (6 : Int) && (o95.flow.src == (134744072 : Int) && (o95.flow.sport == (1 : Int) && (o95.flow.dst == (16843009 : Int) && (o95.flow.dport == (80 : Int) && true)))))) w_ := fun w_ => (run_eql_S (by kernel_rfl))
            refine WD.semP (NoPanic.then hN) 10 (do eqGuard .eql 32 (Operand.tmp 84) (Operand.tmp 86) (.agg #[.int .i64 o95.flow.proto, .int .u32 o95.flow.src, .int .i64 o95.flow.sport, .int .u32 o95.flow.dst, .int .i64 o95.flow.dport]) (.agg #[.int .i64 6, .int .u32 134744072, .int .i64 1, .int .u32 16843009, .int .i64 80]); binOp .eql 32 (.agg #[.int .i64 o95.flow.proto, .int .u32 o95.flow.src, .int .i64 o95.flow.sport, .int .u32 o95.flow.dst, .int .i64 o95.flow.dport]) (.agg #[.int .i64 6, .int .u32 134744072, .int .i64 1, .int .u32 16843009, .int .i64 80])) 87 (.bool (o95.flow.proto == (6 : Int) && (o95.flow.src == (134744072 : Int) && (o95.flow.sport == (1 : Int) && (o95.flow.dst == (16843009 : Int) && (o95.flow.dport == (80 : Int) && true)))))) (by kernel_rfl) (by kernel_rfl) (fun _ _ => hr126 _) hS124 ?_
            refine WD.pure (NoPanic.then hN) 11 88 (.bool (o95.flow.proto == (6 : Int) && (o95.flow.src == (134744072 : Int) && (o95.flow.sport == (1 : Int) && (o95.flow.dst == (16843009 : Int) && (o95.flow.dport == (80 : Int) && true)))))) (by kernel_rfl) (fun _ => by kernel_rfl) hS124 ?_
            refine WD.pure (NoPanic.then hN) 12 6 (.bool (o95.flow.proto == (6 : Int) && (o95.flow.src == (134744072 : Int) && (o95.flow.sport == (1 : Int) && (o95.flow.dst == (16843009 : Int) && (o95.flow.dport == (80 : Int) && true)))))) (by kernel_rfl) (fun _ => by kernel_rfl) hS124 ?_
            refine WD.done (by kernel_rfl) ?_
            refine QX.then_normal (hK115 _ _ ?_)
            refine WC.ret ?_
            refine (hret _ _ _ rfl ?_).1
            clear hN hret hret' hK115 hK89 hK85 hK83 hK81 hK71 hK68 hK49 hK47 hK39 hK37 hK35 hK33 hK23 hK15 hK13 hK11 hK6 hK4 hK2
            exact ⟨congrArg (fun b_ => Ending.returned (Value.bool b_)) (show ((o95.flow.proto == (6 : Int) && (o95.flow.src == (134744072 : Int) && (o95.flow.sport == (1 : Int) && (o95.flow.dst == (16843009 : Int) && (o95.flow.dport == (80 : Int) && true)))))) = true from by rw [hof_, hfc_]; simp [exF]), hC123.fr⟩
          · -- (N : Int) > 1: false
            have t87 : (N : Int) ≤ 1 := by have q_ := of_decide_eq_false t87b; omega
            refine WC.cond_false rfl ?_
            refine WC.skip ?_
            refine QX.then_normal (hK83 _ _ ?_)
            refine WC.seq (fun K127 hK128 => ?_)
            refine WC.region ?_
            refine WL.runs 1 [(69, .pointer (some ⟨p24, 0, none⟩))] (fun _ => by kernel_rfl) ?_
            refine WL.call rfl rfl rfl rfl rfl (by kernel_rfl) (example_ct 1000 w77) ?_
            rintro _ w130 ⟨rfl, hF129⟩
            refine ⟨_, rfl, ?_⟩
            have hC131 := hC78.call hF129
            have hf132 := tbAt_fr hT79 hF129 (by simp)
            refine WL.runs 2 [(72, .int .i64 (IntKind.i64.wrap (now + 101))), (71, .int .i64 now)] (fun _ => by kernel_rfl) ?_
            refine WL.recast (show (.int .i64 (IntKind.i64.wrap (now + 101)) : Value) = .int .i64 (now + 101) from by rw [wrap_in_i64 (now + 101) (by omega) (by omega)]) ?_
            obtain ⟨first, hfirst⟩ : ∃ n_ : Nat, n_ = if q = 0 ∧ 1 < N then 1 else 0 := ⟨_, rfl⟩
            have hfc_ : (first : Int) = 0 := by rw [hfirst]; split <;> omega
            refine WL.call rfl rfl rfl rfl rfl (by kernel_rfl) (Put_ct p24 b25 (⟨m2O now N q, 0, 1, N, N⟩ : Tb) (⟨6, 134744072, 1000, 16843009, 80⟩ : Flow) 2 2 (now + 101) w130 hf132 (by first | (dsimp only [al1, al2, al3, tbO]; omega) | omega) (by first | (dsimp only [al1, al2, al3, tbO]; omega) | omega)) ?_
            rintro _ w139 ⟨T133, o134, fd135, er136, rfl, hF138, hT141, hrel137⟩
            obtain ⟨hof_, rfl, rfl⟩ := put_last hN2 hq5 hnow0 hnow1 first hfirst hrel137
            have hC140 := hC131.callF 0 rfl hF138 (fun _ hx_ => .inl hx_) (tbAt_lt hT141)
            refine ⟨_, rfl, ?_⟩
            refine WL.runs 4 [(76, .nilIface), (75, .bool true), (74, .agg #[.int .i64 o134.flow.proto, .int .u32 o134.flow.src, .int .i64 o134.flow.sport, .int .u32 o134.flow.dst, .int .i64 o134.flow.dport, .int .u32 o134.dip, .int .i64 o134.epoch, .bool o134.trusted, .bool o134.closing, .int .i64 o134.last]), (68, .tuple #[.agg #[.int .i64 o134.flow.proto, .int .u32 o134.flow.src, .int .i64 o134.flow.sport, .int .u32 o134.flow.dst, .int .i64 o134.flow.dport, .int .u32 o134.dip, .int .i64 o134.epoch, .bool o134.trusted, .bool o134.closing, .int .i64 o134.last], .bool true, .nilIface])] (fun _ => by kernel_rfl) ?_
            refine WL.newM hC140 (fun b => .pointer (some ⟨b, 0, none⟩)) (.cells #[.int .i64 0, .int .u32 0, .int .i64 0, .int .u32 0, .int .i64 0, .int .u32 0, .int .i64 0, .bool false, .bool false, .int .i64 0] 34) 12 (fun _ => by kernel_rfl) (fun g142 w143 hb146 hF144 hC145 => ?_)
            have hf147 := tbAt_fr hT141 hF144 (by simp)
            refine WL.storeM (c' := #[.int .i64 o134.flow.proto, .int .u32 o134.flow.src, .int .i64 o134.flow.sport, .int .u32 o134.flow.dst, .int .i64 o134.flow.dport, .int .u32 o134.dip, .int .i64 o134.epoch, .bool o134.trusted, .bool o134.closing, .int .i64 o134.last]) hC145 0 34 g142 0 (.agg #[.int .i64 o134.flow.proto, .int .u32 o134.flow.src, .int .i64 o134.flow.sport, .int .u32 o134.flow.dst, .int .i64 o134.flow.dport, .int .u32 o134.dip, .int .i64 o134.epoch, .bool o134.trusted, .bool o134.closing, .int .i64 o134.last]) (by kernel_rfl) rfl (by kernel_rfl) (fun w148 hF150 hC151 => ?_)
            have hf152 := tbAt_fr hf147 hF150 (hC145.apartM 0 0 rfl rfl)
            refine WL.runs 2 [(8, .nilIface), (13, .bool true)] (fun _ => by kernel_rfl) ?_
            refine WL.done rfl ?_
            refine QX.then_normal (hK128 _ _ ?_)
            refine WC.seq (fun K153 hK154 => ?_)
            refine WC.drawC hC151 [] (by kernel_rfl) (fun w155 hF156 hC157 hS158 => ?_)
            have hf159 := tbAt_fr hf152 hF156 (by simp)
            refine WD.pure (NoPanic.then hN) 0 77 (.nilIface) (by kernel_rfl) (fun _ => by kernel_rfl) hS158 ?_
            refine WD.pure (NoPanic.then hN) 1 78 (.bool true) (by kernel_rfl) (fun _ => by kernel_rfl) hS158 ?_
            refine WD.pure (NoPanic.then hN) 2 79 (.bool true) (by kernel_rfl) (fun _ => by kernel_rfl) hS158 ?_
            refine WD.pure (NoPanic.then hN) 3 80 (.bool true) (by kernel_rfl) (fun _ => by kernel_rfl) hS158 ?_
            refine WD.pure (NoPanic.then hN) 4 81 (.bool true) (by kernel_rfl) (fun _ => by kernel_rfl) hS158 ?_
            refine WD.pure (NoPanic.then hN) 5 82 (.bool true) (by kernel_rfl) (fun _ => by kernel_rfl) hS158 ?_
            refine WD.pure (NoPanic.then hN) 6 83 (.pointer (some ⟨g142, 0, none⟩)) (by kernel_rfl) (fun _ => by kernel_rfl) hS158 ?_
            refine WD.pure (NoPanic.then hN) 8 85 (.int .i64 0) (by kernel_rfl) (fun _ => by kernel_rfl) hS158 ?_
            refine WD.load (NoPanic.then hN) 7 32 (.pointer (some ⟨g142, 0, none⟩)) (.agg #[.int .i64 o134.flow.proto, .int .u32 o134.flow.src, .int .i64 o134.flow.sport, .int .u32 o134.flow.dst, .int .i64 o134.flow.dport]) 84 (by kernel_rfl) (by kernel_rfl) (fun _ hS_ => run_ld (Fr.has hS_ (hC157.get 0 rfl) (by simp)) rfl) hS158 ?_
            refine WD.call 9 (by kernel_rfl) rfl rfl rfl rfl rfl (by kernel_rfl) (example_ct 0 w155) ?_
            rintro _ w161 ⟨rfl, hF160⟩
            have hS163 := hS158.trans hF160 (by simp)
            refine ⟨_, rfl, hS163, ?_⟩
            have hC162 := hC157.call hF160
            have hf164 := tbAt_fr hf159 hF160 (by simp)
            have hr165 : ∀ w_, Sem.run Try.prog (do eqGuard .eql 32 (Operand.tmp 84) (Operand.tmp 86) (.agg #[.int .i64 o134.flow.proto, .int .u32 o134.flow.src, .int .i64 o134.flow.sport, .int .u32 o134.flow.dst, .int .i64 o134.flow.dport]) (.agg #[.int .i64 6, .int .u32 134744072, .int .i64 0, .int .u32 16843009, .int .i64 80]); binOp .eql 32 (.agg #[.int .i64 o134.flow.proto, .int .u32 o134.flow.src, .int .i64 o134.flow.sport, .int .u32 o134.flow.dst, .int .i64 o134.flow.dport]) (.agg #[.int .i64 6, .int .u32 134744072, .int .i64 0, .int .u32 16843009, .int .i64 80])) w_ = .ok (.bool (o134.flow.proto == (6 : Int) && (o134.flow.src == (134744072 : Int) && (o134.flow.sport == (0 : Int) && (o134.flow.dst == (16843009 : Int) && (o134.flow.dport == (80 : Int) && true)))))) w_ := fun w_ => (run_eql_S (by kernel_rfl))
            refine WD.semP (NoPanic.then hN) 10 (do eqGuard .eql 32 (Operand.tmp 84) (Operand.tmp 86) (.agg #[.int .i64 o134.flow.proto, .int .u32 o134.flow.src, .int .i64 o134.flow.sport, .int .u32 o134.flow.dst, .int .i64 o134.flow.dport]) (.agg #[.int .i64 6, .int .u32 134744072, .int .i64 0, .int .u32 16843009, .int .i64 80]); binOp .eql 32 (.agg #[.int .i64 o134.flow.proto, .int .u32 o134.flow.src, .int .i64 o134.flow.sport, .int .u32 o134.flow.dst, .int .i64 o134.flow.dport]) (.agg #[.int .i64 6, .int .u32 134744072, .int .i64 0, .int .u32 16843009, .int .i64 80])) 87 (.bool (o134.flow.proto == (6 : Int) && (o134.flow.src == (134744072 : Int) && (o134.flow.sport == (0 : Int) && (o134.flow.dst == (16843009 : Int) && (o134.flow.dport == (80 : Int) && true)))))) (by kernel_rfl) (by kernel_rfl) (fun _ _ => hr165 _) hS163 ?_
            refine WD.pure (NoPanic.then hN) 11 88 (.bool (o134.flow.proto == (6 : Int) && (o134.flow.src == (134744072 : Int) && (o134.flow.sport == (0 : Int) && (o134.flow.dst == (16843009 : Int) && (o134.flow.dport == (80 : Int) && true)))))) (by kernel_rfl) (fun _ => by kernel_rfl) hS163 ?_
            refine WD.pure (NoPanic.then hN) 12 6 (.bool (o134.flow.proto == (6 : Int) && (o134.flow.src == (134744072 : Int) && (o134.flow.sport == (0 : Int) && (o134.flow.dst == (16843009 : Int) && (o134.flow.dport == (80 : Int) && true)))))) (by kernel_rfl) (fun _ => by kernel_rfl) hS163 ?_
            refine WD.done (by kernel_rfl) ?_
            refine QX.then_normal (hK154 _ _ ?_)
            refine WC.ret ?_
            refine (hret _ _ _ rfl ?_).1
            clear hN hret hret' hK154 hK128 hK85 hK83 hK81 hK71 hK68 hK49 hK47 hK39 hK37 hK35 hK33 hK23 hK15 hK13 hK11 hK6 hK4 hK2
            exact ⟨congrArg (fun b_ => Ending.returned (Value.bool b_)) (show ((o134.flow.proto == (6 : Int) && (o134.flow.src == (134744072 : Int) && (o134.flow.sport == (0 : Int) && (o134.flow.dst == (16843009 : Int) && (o134.flow.dport == (80 : Int) && true)))))) = true from by rw [hof_, hfc_]; simp [exF]), hC162.fr⟩
        · -- (q : Int) = 0: false
          have t86 : ¬ ((q : Int) = 0) := by simpa using t86b
          refine WL.runs 3 [(67, .bool false), (66, undef), (65, undef)] (fun _ => by kernel_rfl) ?_
          refine WL.done rfl ?_
          refine QX.then_normal (hK85 _ _ ?_)
          refine WC.cond_false rfl ?_
          refine WC.skip ?_
          refine QX.then_normal (hK83 _ _ ?_)
          refine WC.seq (fun K166 hK167 => ?_)
          refine WC.region ?_
          refine WL.runs 1 [(69, .pointer (some ⟨p24, 0, none⟩))] (fun _ => by kernel_rfl) ?_
          refine WL.call rfl rfl rfl rfl rfl (by kernel_rfl) (example_ct 1000 w77) ?_
          rintro _ w169 ⟨rfl, hF168⟩
          refine ⟨_, rfl, ?_⟩
          have hC170 := hC78.call hF168
          have hf171 := tbAt_fr hT79 hF168 (by simp)
          refine WL.runs 2 [(72, .int .i64 (IntKind.i64.wrap (now + 101))), (71, .int .i64 now)] (fun _ => by kernel_rfl) ?_
          refine WL.recast (show (.int .i64 (IntKind.i64.wrap (now + 101)) : Value) = .int .i64 (now + 101) from by rw [wrap_in_i64 (now + 101) (by omega) (by omega)]) ?_
          obtain ⟨first, hfirst⟩ : ∃ n_ : Nat, n_ = if q = 0 ∧ 1 < N then 1 else 0 := ⟨_, rfl⟩
          have hfc_ : (first : Int) = 0 := by rw [hfirst]; split <;> omega
          refine WL.call rfl rfl rfl rfl rfl (by kernel_rfl) (Put_ct p24 b25 (⟨m2O now N q, 0, 1, N, N⟩ : Tb) (⟨6, 134744072, 1000, 16843009, 80⟩ : Flow) 2 2 (now + 101) w169 hf171 (by first | (dsimp only [al1, al2, al3, tbO]; omega) | omega) (by first | (dsimp only [al1, al2, al3, tbO]; omega) | omega)) ?_
          rintro _ w178 ⟨T172, o173, fd174, er175, rfl, hF177, hT180, hrel176⟩
          obtain ⟨hof_, rfl, rfl⟩ := put_last hN2 hq5 hnow0 hnow1 first hfirst hrel176
          have hC179 := hC170.callF 0 rfl hF177 (fun _ hx_ => .inl hx_) (tbAt_lt hT180)
          refine ⟨_, rfl, ?_⟩
          refine WL.runs 4 [(76, .nilIface), (75, .bool true), (74, .agg #[.int .i64 o173.flow.proto, .int .u32 o173.flow.src, .int .i64 o173.flow.sport, .int .u32 o173.flow.dst, .int .i64 o173.flow.dport, .int .u32 o173.dip, .int .i64 o173.epoch, .bool o173.trusted, .bool o173.closing, .int .i64 o173.last]), (68, .tuple #[.agg #[.int .i64 o173.flow.proto, .int .u32 o173.flow.src, .int .i64 o173.flow.sport, .int .u32 o173.flow.dst, .int .i64 o173.flow.dport, .int .u32 o173.dip, .int .i64 o173.epoch, .bool o173.trusted, .bool o173.closing, .int .i64 o173.last], .bool true, .nilIface])] (fun _ => by kernel_rfl) ?_
          refine WL.newM hC179 (fun b => .pointer (some ⟨b, 0, none⟩)) (.cells #[.int .i64 0, .int .u32 0, .int .i64 0, .int .u32 0, .int .i64 0, .int .u32 0, .int .i64 0, .bool false, .bool false, .int .i64 0] 34) 12 (fun _ => by kernel_rfl) (fun g181 w182 hb185 hF183 hC184 => ?_)
          have hf186 := tbAt_fr hT180 hF183 (by simp)
          refine WL.storeM (c' := #[.int .i64 o173.flow.proto, .int .u32 o173.flow.src, .int .i64 o173.flow.sport, .int .u32 o173.flow.dst, .int .i64 o173.flow.dport, .int .u32 o173.dip, .int .i64 o173.epoch, .bool o173.trusted, .bool o173.closing, .int .i64 o173.last]) hC184 0 34 g181 0 (.agg #[.int .i64 o173.flow.proto, .int .u32 o173.flow.src, .int .i64 o173.flow.sport, .int .u32 o173.flow.dst, .int .i64 o173.flow.dport, .int .u32 o173.dip, .int .i64 o173.epoch, .bool o173.trusted, .bool o173.closing, .int .i64 o173.last]) (by kernel_rfl) rfl (by kernel_rfl) (fun w187 hF189 hC190 => ?_)
          have hf191 := tbAt_fr hf186 hF189 (hC184.apartM 0 0 rfl rfl)
          refine WL.runs 2 [(8, .nilIface), (13, .bool true)] (fun _ => by kernel_rfl) ?_
          refine WL.done rfl ?_
          refine QX.then_normal (hK167 _ _ ?_)
          refine WC.seq (fun K192 hK193 => ?_)
          refine WC.drawC hC190 [] (by kernel_rfl) (fun w194 hF195 hC196 hS197 => ?_)
          have hf198 := tbAt_fr hf191 hF195 (by simp)
          refine WD.pure (NoPanic.then hN) 0 77 (.nilIface) (by kernel_rfl) (fun _ => by kernel_rfl) hS197 ?_
          refine WD.pure (NoPanic.then hN) 1 78 (.bool true) (by kernel_rfl) (fun _ => by kernel_rfl) hS197 ?_
          refine WD.pure (NoPanic.then hN) 2 79 (.bool true) (by kernel_rfl) (fun _ => by kernel_rfl) hS197 ?_
          refine WD.pure (NoPanic.then hN) 3 80 (.bool true) (by kernel_rfl) (fun _ => by kernel_rfl) hS197 ?_
          refine WD.pure (NoPanic.then hN) 4 81 (.bool true) (by kernel_rfl) (fun _ => by kernel_rfl) hS197 ?_
          refine WD.pure (NoPanic.then hN) 5 82 (.bool true) (by kernel_rfl) (fun _ => by kernel_rfl) hS197 ?_
          refine WD.pure (NoPanic.then hN) 6 83 (.pointer (some ⟨g181, 0, none⟩)) (by kernel_rfl) (fun _ => by kernel_rfl) hS197 ?_
          refine WD.pure (NoPanic.then hN) 8 85 (.int .i64 0) (by kernel_rfl) (fun _ => by kernel_rfl) hS197 ?_
          refine WD.load (NoPanic.then hN) 7 32 (.pointer (some ⟨g181, 0, none⟩)) (.agg #[.int .i64 o173.flow.proto, .int .u32 o173.flow.src, .int .i64 o173.flow.sport, .int .u32 o173.flow.dst, .int .i64 o173.flow.dport]) 84 (by kernel_rfl) (by kernel_rfl) (fun _ hS_ => run_ld (Fr.has hS_ (hC196.get 0 rfl) (by simp)) rfl) hS197 ?_
          refine WD.call 9 (by kernel_rfl) rfl rfl rfl rfl rfl (by kernel_rfl) (example_ct 0 w194) ?_
          rintro _ w200 ⟨rfl, hF199⟩
          have hS202 := hS197.trans hF199 (by simp)
          refine ⟨_, rfl, hS202, ?_⟩
          have hC201 := hC196.call hF199
          have hf203 := tbAt_fr hf198 hF199 (by simp)
          have hr204 : ∀ w_, Sem.run Try.prog (do eqGuard .eql 32 (Operand.tmp 84) (Operand.tmp 86) (.agg #[.int .i64 o173.flow.proto, .int .u32 o173.flow.src, .int .i64 o173.flow.sport, .int .u32 o173.flow.dst, .int .i64 o173.flow.dport]) (.agg #[.int .i64 6, .int .u32 134744072, .int .i64 0, .int .u32 16843009, .int .i64 80]); binOp .eql 32 (.agg #[.int .i64 o173.flow.proto, .int .u32 o173.flow.src, .int .i64 o173.flow.sport, .int .u32 o173.flow.dst, .int .i64 o173.flow.dport]) (.agg #[.int .i64 6, .int .u32 134744072, .int .i64 0, .int .u32 16843009, .int .i64 80])) w_ = .ok (.bool (o173.flow.proto == (6 : Int) && (o173.flow.src == (134744072 : Int) && (o173.flow.sport == (0 : Int) && (o173.flow.dst == (16843009 : Int) && (o173.flow.dport == (80 : Int) && true)))))) w_ := fun w_ => (run_eql_S (by kernel_rfl))
          refine WD.semP (NoPanic.then hN) 10 (do eqGuard .eql 32 (Operand.tmp 84) (Operand.tmp 86) (.agg #[.int .i64 o173.flow.proto, .int .u32 o173.flow.src, .int .i64 o173.flow.sport, .int .u32 o173.flow.dst, .int .i64 o173.flow.dport]) (.agg #[.int .i64 6, .int .u32 134744072, .int .i64 0, .int .u32 16843009, .int .i64 80]); binOp .eql 32 (.agg #[.int .i64 o173.flow.proto, .int .u32 o173.flow.src, .int .i64 o173.flow.sport, .int .u32 o173.flow.dst, .int .i64 o173.flow.dport]) (.agg #[.int .i64 6, .int .u32 134744072, .int .i64 0, .int .u32 16843009, .int .i64 80])) 87 (.bool (o173.flow.proto == (6 : Int) && (o173.flow.src == (134744072 : Int) && (o173.flow.sport == (0 : Int) && (o173.flow.dst == (16843009 : Int) && (o173.flow.dport == (80 : Int) && true)))))) (by kernel_rfl) (by kernel_rfl) (fun _ _ => hr204 _) hS202 ?_
          refine WD.pure (NoPanic.then hN) 11 88 (.bool (o173.flow.proto == (6 : Int) && (o173.flow.src == (134744072 : Int) && (o173.flow.sport == (0 : Int) && (o173.flow.dst == (16843009 : Int) && (o173.flow.dport == (80 : Int) && true)))))) (by kernel_rfl) (fun _ => by kernel_rfl) hS202 ?_
          refine WD.pure (NoPanic.then hN) 12 6 (.bool (o173.flow.proto == (6 : Int) && (o173.flow.src == (134744072 : Int) && (o173.flow.sport == (0 : Int) && (o173.flow.dst == (16843009 : Int) && (o173.flow.dport == (80 : Int) && true)))))) (by kernel_rfl) (fun _ => by kernel_rfl) hS202 ?_
          refine WD.done (by kernel_rfl) ?_
          refine QX.then_normal (hK193 _ _ ?_)
          refine WC.ret ?_
          refine (hret _ _ _ rfl ?_).1
          clear hN hret hret' hK193 hK167 hK85 hK83 hK81 hK71 hK68 hK49 hK47 hK39 hK37 hK35 hK33 hK23 hK15 hK13 hK11 hK6 hK4 hK2
          exact ⟨congrArg (fun b_ => Ending.returned (Value.bool b_)) (show ((o173.flow.proto == (6 : Int) && (o173.flow.src == (134744072 : Int) && (o173.flow.sport == (0 : Int) && (o173.flow.dst == (16843009 : Int) && (o173.flow.dport == (80 : Int) && true)))))) = true from by rw [hof_, hfc_]; simp [exF]), hC201.fr⟩

end Go.Proofs.Ytimphmcoafapgaa
