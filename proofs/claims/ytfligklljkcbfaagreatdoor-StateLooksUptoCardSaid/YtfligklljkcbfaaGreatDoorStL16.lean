/- Contracts of functions of the program, each proved by a walk through its code; conditions stand in the statements. -/
import Derived.Test.YtfligklljkcbfaaGreatDoorStK16
import Derived.Test.YtfligklljkcbfaaGreatDoorTwDel
namespace Go.Proofs.YtfligklljkcbfaaGreatDoor
set_option linter.unusedSimpArgs false
set_option linter.unusedVariables false
set_option linter.unusedSectionVars false
open Go Go.RowKit Go.Tw
set_option linter.unusedVariables false
set_option maxRecDepth 20000
abbrev K3 := Int × Int × Int
def lt3 (a b : K3) : Bool := decide (a.1 < b.1 ∨ (a.1 = b.1 ∧ (a.2.1 < b.2.1 ∨ (a.2.1 = b.2.1 ∧ a.2.2 < b.2.2))))
def cmp3 (a b : K3) : Int := orI [cmpI a.1 b.1, cmpI a.2.1 b.2.1, cmpI a.2.2 b.2.2]
theorem lt3_iff {a b : K3} : lt3 a b = true ↔ a.1 < b.1 ∨ (a.1 = b.1 ∧ (a.2.1 < b.2.1 ∨ (a.2.1 = b.2.1 ∧ a.2.2 < b.2.2))) := decide_eq_true_iff
theorem k3_eq {a b : K3} : a = b ↔ a.1 = b.1 ∧ a.2.1 = b.2.1 ∧ a.2.2 = b.2.2 := by
  obtain ⟨a1, a2, a3⟩ := a; obtain ⟨b1, b2, b3⟩ := b; simp
theorem lt3_trans {a b c : K3} (h : lt3 a b = true) (k : lt3 b c = true) : lt3 a c = true := by
  rw [lt3_iff] at *; omega
theorem lt3_irr (a : K3) : lt3 a a = false := by
  cases h : lt3 a a
  · rfl
  · rw [lt3_iff] at h; omega
theorem lt3_ne {a b : K3} (h : lt3 a b = true) : a ≠ b := fun e => by subst e; rw [lt3_irr] at h; cases h
theorem lt3_asym {a b : K3} (h : lt3 a b = true) : lt3 b a = false := by
  cases k : lt3 b a
  · rfl
  · rw [lt3_iff] at *; omega
theorem lt3_tot {a b : K3} (h : lt3 a b = false) (hne : a ≠ b) : lt3 b a = true := by
  have h1 : ¬ lt3 a b = true := by rw [h]; decide
  rw [lt3_iff] at *
  have h2 : ¬ (a.1 = b.1 ∧ a.2.1 = b.2.1 ∧ a.2.2 = b.2.2) := fun q => hne (k3_eq.2 q)
  omega
theorem cmp3_lt {a b : K3} : cmp3 a b < 0 ↔ lt3 a b = true := by
  rw [lt3_iff]
  simp only [cmp3, orI, cmpI]
  (repeat' split) <;> omega
theorem cmp3_eq {a b : K3} : cmp3 a b = 0 ↔ a = b := by
  rw [k3_eq]
  simp only [cmp3, orI, cmpI]
  (repeat' split) <;> omega
theorem cmp3_not {a b : K3} (h : ¬ cmp3 a b < 0) : lt3 a b = false := by
  cases k : lt3 a b
  · rfl
  · exact absurd (cmp3_lt.2 k) h
theorem cmp3_one (x y : Int) : cmp3 (x, 0, 0) (y, 0, 0) = cmpI x y := by
  simp only [cmp3, orI, cmpI]
  (repeat' split) <;> omega
section
variable {α : Type} {κ : α → K3}
def sortK (κ : α → K3) (xs : List α) : Prop := xs.Pairwise (fun a b => lt3 (κ a) (κ b) = true)
def rankK (κ : α → K3) (k : K3) (xs : List α) : Nat := (xs.takeWhile (fun x => lt3 (κ x) k)).length
def hasK (κ : α → K3) (k : K3) (xs : List α) : Bool := xs.any (fun x => decide (κ x = k))
def putK (κ : α → K3) (xs : List α) (x : α) (out : Bool) : List α :=
  if hasK κ (κ x) xs = true then (if out = true then xs.take (rankK κ (κ x) xs) ++ xs.drop (rankK κ (κ x) xs + 1) else xs.set (rankK κ (κ x) xs) x)
  else (if out = true then xs else xs.take (rankK κ (κ x) xs) ++ x :: xs.drop (rankK κ (κ x) xs))
theorem sortK_get {xs : List α} (hs : sortK κ xs) {i j : Nat} {x y : α} (hij : i < j) (hi : xs[i]? = some x) (hj : xs[j]? = some y) : lt3 (κ x) (κ y) = true := by
  obtain ⟨h1, rfl⟩ := List.getElem?_eq_some_iff.1 hi
  obtain ⟨h2, rfl⟩ := List.getElem?_eq_some_iff.1 hj
  exact List.pairwise_iff_getElem.1 hs i j h1 h2 hij
theorem bsK_lo {xs : List α} {k : K3} {x : α} {h : Nat} (hs : sortK κ xs) (he : xs[h]? = some x) (hlt : lt3 (κ x) k = true) : ∀ q y, q < h + 1 → xs[q]? = some y → lt3 (κ y) k = true := by
  intro q y hq hy
  by_cases e : q = h
  · subst e; rw [he] at hy; cases hy; exact hlt
  · exact lt3_trans (sortK_get hs (by omega) hy he) hlt
theorem bsK_hi {xs : List α} {k : K3} {x : α} {h : Nat} (hs : sortK κ xs) (he : xs[h]? = some x) (hlt : lt3 (κ x) k = false) : ∀ q y, h ≤ q → xs[q]? = some y → lt3 (κ y) k = false := by
  intro q y hq hy
  by_cases e : q = h
  · subst e; rw [he] at hy; cases hy; exact hlt
  · cases hc : lt3 (κ y) k
    · rfl
    · rw [lt3_trans (sortK_get hs (by omega) he hy) hc] at hlt; cases hlt
theorem rank_of {xs : List α} {k : K3} {i : Nat} (hi : i ≤ xs.length) (hlo : ∀ q y, q < i → xs[q]? = some y → lt3 (κ y) k = true) (hhi : ∀ q y, i ≤ q → xs[q]? = some y → lt3 (κ y) k = false) : rankK κ k xs = i := by
  unfold rankK
  have e : xs.takeWhile (fun x => lt3 (κ x) k) = xs.take i := by
    conv => lhs; rw [← List.take_append_drop i xs]
    rw [List.takeWhile_append_of_pos (fun x hx => by
      obtain ⟨q, hq⟩ := List.getElem?_of_mem hx
      rw [List.getElem?_take] at hq
      split at hq
      · exact hlo q x (by assumption) hq
      · cases hq)]
    cases hd : xs.drop i with
    | nil => simp
    | cons y r =>
      have hy : xs[i]? = some y := by
        have := congrArg (fun l => l[0]?) hd
        simpa using this
      rw [List.takeWhile_cons, hhi i y (Nat.le_refl _) hy]; simp
  rw [e, List.length_take]; exact Nat.min_eq_left hi
theorem has_at {xs : List α} {k : K3} {i : Nat} {x : α} (hhi : ∀ q y, i ≤ q → xs[q]? = some y → lt3 (κ y) k = false) (hlo : ∀ q y, q < i → xs[q]? = some y → lt3 (κ y) k = true) (hs : sortK κ xs) (hx : xs[i]? = some x) : hasK κ k xs = (cmp3 (κ x) k == 0) := by
  unfold hasK
  by_cases e : κ x = k
  · rw [show (cmp3 (κ x) k == 0) = true from by rw [cmp3_eq.2 e]; rfl]
    exact List.any_eq_true.2 ⟨x, List.mem_of_getElem? hx, decide_eq_true e⟩
  · rw [show (cmp3 (κ x) k == 0) = false from by simpa using fun h => e (cmp3_eq.1 h)]
    rw [List.any_eq_false]
    intro y hy hyk
    have hyk := of_decide_eq_true hyk
    obtain ⟨q, hq⟩ := List.getElem?_of_mem hy
    by_cases c1 : q < i
    · exact lt3_ne (hlo q y c1 hq) hyk
    · by_cases c2 : q = i
      · subst c2; rw [hx] at hq; cases hq; exact e hyk
      · have h1 := sortK_get hs (show i < q by omega) hx hq
        rw [hyk] at h1
        rw [hhi i x (Nat.le_refl _) hx] at h1; cases h1
theorem has_end {xs : List α} {k : K3} {i : Nat} (hlo : ∀ q y, q < i → xs[q]? = some y → lt3 (κ y) k = true) (hi : xs.length ≤ i) : hasK κ k xs = false := by
  unfold hasK
  rw [List.any_eq_false]
  intro y hy hyk
  obtain ⟨q, hq⟩ := List.getElem?_of_mem hy
  have := (List.getElem?_eq_some_iff.1 hq).1
  exact lt3_ne (hlo q y (by omega) hq) (of_decide_eq_true hyk)
theorem rank_le (k : K3) (xs : List α) : rankK κ k xs ≤ xs.length := List.Sublist.length_le (List.takeWhile_sublist _)
theorem rank_lo {k : K3} {xs : List α} {q : Nat} {y : α} (hq : q < rankK κ k xs) (hy : xs[q]? = some y) : lt3 (κ y) k = true := by
  have h1 : (xs.takeWhile (fun x => lt3 (κ x) k))[q]? = some y := by
    have hp := List.takeWhile_prefix (fun x => lt3 (κ x) k) (l := xs)
    obtain ⟨t, ht⟩ := hp
    have : xs[q]? = (xs.takeWhile (fun x => lt3 (κ x) k))[q]? := by
      conv => lhs; rw [← ht]
      exact List.getElem?_append_left hq
    rw [← this]; exact hy
  exact List.all_eq_true.1 List.all_takeWhile y (List.mem_of_getElem? h1)
theorem rank_hi0 {k : K3} {xs : List α} {y : α} (hy : xs[rankK κ k xs]? = some y) : lt3 (κ y) k = false := by
  unfold rankK at hy
  induction xs with
  | nil => cases hy
  | cons a r ih =>
    rw [List.takeWhile_cons] at hy
    cases h : lt3 (κ a) k
    · rw [h] at hy; simp at hy; subst hy; exact h
    · rw [h] at hy; simp at hy; exact ih hy
theorem rank_hi {k : K3} {xs : List α} (hs : sortK κ xs) {q : Nat} {y : α} (hq : rankK κ k xs ≤ q) (hy : xs[q]? = some y) : lt3 (κ y) k = false := by
  have hlt : rankK κ k xs < xs.length := by have := (List.getElem?_eq_some_iff.1 hy).1; omega
  exact bsK_hi hs (List.getElem?_eq_getElem hlt) (rank_hi0 (List.getElem?_eq_getElem hlt)) q y hq hy
theorem has_lt {k : K3} {xs : List α} (h : hasK κ k xs = true) (hs : sortK κ xs) : rankK κ k xs < xs.length ∧ ∃ y, xs[rankK κ k xs]? = some y ∧ κ y = k := by
  obtain ⟨y, hy, hyk⟩ := List.any_eq_true.1 h
  have hyk := of_decide_eq_true hyk
  obtain ⟨q, hq⟩ := List.getElem?_of_mem hy
  have hql := (List.getElem?_eq_some_iff.1 hq).1
  have h1 : ¬ q < rankK κ k xs := fun hlt => lt3_ne (rank_lo hlt hq) hyk
  have h2 : rankK κ k xs < xs.length := by omega
  obtain ⟨z, hz⟩ : ∃ z, xs[rankK κ k xs]? = some z := ⟨_, List.getElem?_eq_getElem h2⟩
  refine ⟨h2, z, hz, ?_⟩
  by_cases e : rankK κ k xs = q
  · rw [e, hq] at hz; cases hz; exact hyk
  · exfalso
    have h3 := sortK_get hs (show rankK κ k xs < q by omega) hz hq
    rw [hyk, rank_hi0 hz] at h3; cases h3
theorem put_cut {xs : List α} {x : α} {out : Bool} (hs : sortK κ xs) : putK κ xs x out = xs.filter (fun y => lt3 (κ y) (κ x)) ++ (if out then [] else [x]) ++ xs.filter (fun y => lt3 (κ x) (κ y)) := by
  have hr := rank_le (κ := κ) (κ x) xs
  have e1 : xs.filter (fun y => lt3 (κ y) (κ x)) = xs.take (rankK κ (κ x) xs) := by
    conv => lhs; rw [← List.take_append_drop (rankK κ (κ x) xs) xs]
    rw [List.filter_append]
    rw [List.filter_eq_self.2 (fun y hy => by
      obtain ⟨q, hq⟩ := List.getElem?_of_mem hy
      rw [List.getElem?_take] at hq
      split at hq
      · exact rank_lo (by assumption) hq
      · cases hq)]
    rw [List.filter_eq_nil_iff.2 (fun y hy => by
      obtain ⟨q, hq⟩ := List.getElem?_of_mem hy
      rw [List.getElem?_drop] at hq
      rw [rank_hi hs (Nat.le_add_right _ _) hq]; decide), List.append_nil]
  by_cases hh : hasK κ (κ x) xs = true
  · obtain ⟨hlt, y, hy, hyk⟩ := has_lt hh hs
    have e2 : xs.filter (fun y => lt3 (κ x) (κ y)) = xs.drop (rankK κ (κ x) xs + 1) := by
      conv => lhs; rw [← List.take_append_drop (rankK κ (κ x) xs + 1) xs]
      rw [List.filter_append]
      rw [List.filter_eq_nil_iff.2 (fun z hz => by
        obtain ⟨q, hq⟩ := List.getElem?_of_mem hz
        rw [List.getElem?_take] at hq
        split at hq
        · by_cases e : q = rankK κ (κ x) xs
          · rw [e, hy] at hq; cases hq; rw [hyk, lt3_irr]; decide
          · rw [lt3_asym (rank_lo (by omega) hq)]; decide
        · cases hq)]
      rw [List.filter_eq_self.2 (fun z hz => by
        obtain ⟨q, hq⟩ := List.getElem?_of_mem hz
        rw [List.getElem?_drop] at hq
        have := sortK_get hs (show rankK κ (κ x) xs < rankK κ (κ x) xs + 1 + q by omega) hy hq
        rwa [hyk] at this), List.nil_append]
    rw [e1, e2]
    unfold putK
    rw [if_pos hh]
    cases out
    · simp only [Bool.false_eq_true, if_false]
      rw [List.set_eq_take_append_cons_drop, if_pos hlt]; simp
    · simp
  · have hf : hasK κ (κ x) xs = false := by simpa using hh
    have e2 : xs.filter (fun y => lt3 (κ x) (κ y)) = xs.drop (rankK κ (κ x) xs) := by
      conv => lhs; rw [← List.take_append_drop (rankK κ (κ x) xs) xs]
      rw [List.filter_append]
      rw [List.filter_eq_nil_iff.2 (fun z hz => by
        obtain ⟨q, hq⟩ := List.getElem?_of_mem hz
        rw [List.getElem?_take] at hq
        split at hq
        · rw [lt3_asym (rank_lo (by assumption) hq)]; decide
        · cases hq)]
      rw [List.filter_eq_self.2 (fun z hz => by
        obtain ⟨q, hq⟩ := List.getElem?_of_mem hz
        rw [List.getElem?_drop] at hq
        have h1 := rank_hi hs (Nat.le_add_right _ _) hq
        refine lt3_tot h1 fun e => ?_
        exact absurd (List.any_eq_true.2 ⟨z, List.mem_of_mem_drop hz, decide_eq_true e⟩ : hasK κ (κ x) xs = true) hh), List.nil_append]
    rw [e1, e2]
    unfold putK
    rw [if_neg hh]
    cases out
    · simp
    · simp
theorem put_mem {xs : List α} {x : α} {out : Bool} (hs : sortK κ xs) {y : α} : y ∈ putK κ xs x out ↔ (y ∈ xs ∧ κ y ≠ κ x) ∨ (out = false ∧ y = x) := by
  rw [put_cut hs]
  simp only [List.mem_append, List.mem_filter]
  constructor
  · rintro ((⟨h1, h2⟩ | h) | ⟨h1, h2⟩)
    · exact .inl ⟨h1, lt3_ne h2⟩
    · cases out
      · simp at h; exact .inr ⟨rfl, h⟩
      · simp at h
    · exact .inl ⟨h1, fun e => lt3_ne h2 e.symm⟩
  · rintro (⟨h1, h2⟩ | ⟨rfl, rfl⟩)
    · cases h : lt3 (κ y) (κ x)
      · exact .inr ⟨h1, lt3_tot h h2⟩
      · exact .inl (.inl ⟨h1, rfl⟩)
    · exact .inl (.inr (by simp))
theorem put_sort {xs : List α} {x : α} {out : Bool} (hs : sortK κ xs) : sortK κ (putK κ xs x out) := by
  rw [put_cut hs]
  unfold sortK
  rw [List.pairwise_append, List.pairwise_append]
  refine ⟨⟨List.Pairwise.filter _ hs, by cases out <;> simp, fun a ha b hb => ?_⟩, List.Pairwise.filter _ hs, fun a ha b hb => ?_⟩
  · cases out
    · simp at hb; subst hb; exact (List.mem_filter.1 ha).2
    · simp at hb
  · have hb2 := (List.mem_filter.1 hb).2
    rcases List.mem_append.1 ha with ha | ha
    · exact lt3_trans (List.mem_filter.1 ha).2 hb2
    · cases out
      · simp at ha; subst ha; exact hb2
      · simp at ha
theorem put_len {xs : List α} {x : α} {out : Bool} (hs : sortK κ xs) : (putK κ xs x out).length ≤ xs.length + 1 := by
  unfold putK
  have hr := rank_le (κ := κ) (κ x) xs
  by_cases h : hasK κ (κ x) xs = true
  · have := (has_lt h hs).1
    rw [if_pos h]; cases out <;> simp <;> omega
  · rw [if_neg h]; cases out <;> simp <;> omega
end
structure SvcV where
  vip : Int
  proto : Int
  port : Int
  ends : List EndV
deriving DecidableEq
structure Svc where
  v : SvcV
  a : Option Addr
  c : Nat
def cellsS (s : Svc) : List Value := [.int .u32 s.v.vip, .int .i64 s.v.proto, .int .i64 s.v.port, .slice s.a s.v.ends.length s.c]
theorem cellsS_len (s : Svc) : (cellsS s).length = 4 := rfl
theorem cellsS_one (s : Svc) : (cellsS s).all Value.oneCell' = true := rfl
structure SnatV where
  dip : Int
  vip : Int
deriving DecidableEq
def cellsN (s : SnatV) : List Value := [.int .u32 s.dip, .int .u32 s.vip]
theorem cellsN_len (s : SnatV) : (cellsN s).length = 2 := rfl
theorem cellsN_one (s : SnatV) : (cellsN s).all Value.oneCell' = true := rfl
def kV (s : SvcV) : K3 := (s.vip, s.proto, s.port)
def kS (s : Svc) : K3 := kV s.v
def kN (s : SnatV) : K3 := (s.dip, 0, 0)
def kA (x : Int) : K3 := (x, 0, 0)
theorem insAz (sz : Nat) (L2 vs cs : List Value) (i n : Nat) (hv : vs.length = sz) (hc : cs.length = (n - i) * sz) (hp : i * sz ≤ L2.length) (hi : i < n) :
    (((L2.take (i * sz) ++ vs ++ L2.drop (i * sz + vs.length)).take ((i + 1) * sz) ++ cs ++ (L2.take (i * sz) ++ vs ++ L2.drop (i * sz + vs.length)).drop ((i + 1) * sz + cs.length)).take ((n + 1) * sz)) = L2.take (i * sz) ++ vs ++ cs := by
  have h := insA L2 vs cs ((L2.take (i * sz) ++ vs ++ L2.drop (i * sz + vs.length)).drop ((i + 1) * sz + cs.length)) (i * sz) hp
  rw [show (i + 1) * sz = i * sz + vs.length from by rw [Nat.add_mul]; omega] at h ⊢
  rw [show (n + 1) * sz = i * sz + vs.length + cs.length from by rw [hv, hc, ← Nat.succ_mul, ← Nat.add_mul]; congr 1; omega]
  exact h
theorem insBz (sz : Nat) (L vs cs : List Value) (i n : Nat) (hv : vs.length = sz) (hc : cs.length = (n - i) * sz) (hp : (i + 1) * sz ≤ L.length) (hi : i < n) :
    (((L.take ((i + 1) * sz) ++ cs ++ L.drop ((i + 1) * sz + cs.length)).take (i * sz) ++ vs ++ (L.take ((i + 1) * sz) ++ cs ++ L.drop ((i + 1) * sz + cs.length)).drop (i * sz + vs.length)).take ((n + 1) * sz)) = L.take (i * sz) ++ vs ++ cs := by
  have hp2 : i * sz + vs.length ≤ L.length := by rw [Nat.add_mul] at hp; omega
  have h := insB L vs cs (L.drop ((i + 1) * sz + cs.length)) (i * sz) hp2
  rw [show (i + 1) * sz = i * sz + vs.length from by rw [Nat.add_mul]; omega] at h ⊢
  rw [show (n + 1) * sz = i * sz + vs.length + cs.length from by rw [hv, hc, ← Nat.succ_mul, ← Nat.add_mul]; congr 1; omega]
  exact h
theorem flat_oneS {α : Type} {enc : α → List Value} (h : ∀ x, (enc x).all Value.oneCell' = true) (xs : List α) : (xs.flatMap enc).all Value.oneCell' = true := by
  rw [List.all_eq_true]
  intro v hv
  obtain ⟨x, _, hx⟩ := List.mem_flatMap.1 hv
  exact List.all_eq_true.1 (h x) v hx
theorem byName_ct (a b : Svc) (w : World) : Calls Tryz.prog 37 #[.agg #[U4 a.v.vip, I6 a.v.proto, I6 a.v.port, .slice a.a a.v.ends.length a.c], .agg #[U4 b.v.vip, I6 b.v.proto, I6 b.v.port, .slice b.a b.v.ends.length b.c]] w fun e w' => e = .returned (I6 (cmp3 (kS a) (kS b))) ∧ Fr w w' [] := by
 refine enterD (n := 22) Tryz.func37 rfl rfl (Nat.le_of_ble_eq_true rfl) ?_
 intro Q0 hN hret hret'
 have hC := Cx.start w
 refine WCs (fun K1 hK2 => WCg (WLb hC (.cells #[U4 a.v.vip, I6 a.v.proto, I6 a.v.port, .slice a.a a.v.ends.length a.c] 43) 2 (fun g3 w4 hb7 hF5 hC6 => WLb hC6 (.cells #[U4 b.v.vip, I6 b.v.proto, I6 b.v.port, .slice b.a b.v.ends.length b.c] 43) 3 (fun g8 w9 ax ay an => WLq 1 [(4, I6 0)] (WLd rfl (QXn (hK2 _ _ (WCs (fun aG ao => ?_)))))))))
 refine WC.drawC an [] (by kernel_rfl) (fun az aA ab aa => WDx 6 [(0, 5, P0 g3 0), (2, 7, P0 g8 0), (5, 10, P0 g3 1), (7, 12, P0 g8 1), (10, 15, P0 g3 2), (12, 17, P0 g8 2)] aa (WDm 1 40 (P0 g3 0) (U4 a.v.vip) 6 (fun _ hS_ => run_ld (Fr.has hS_ (ab.get 0 rfl) (by simp)) rfl) aa (WDm 3 40 (P0 g8 0) (U4 b.v.vip) 8 (fun _ hS_ => run_ld (Fr.has hS_ (ab.get 1 rfl) (by simp)) rfl) aa (WDm 6 3 (P0 g3 1) (I6 a.v.proto) 11 (fun _ hS_ => run_ld (Fr.has hS_ (ab.get 0 rfl) (by simp)) rfl) aa (WDm 8 3 (P0 g8 1) (I6 b.v.proto) 13 (fun _ hS_ => run_ld (Fr.has hS_ (ab.get 1 rfl) (by simp)) rfl) aa ?_)))))
 refine WDm 11 3 (P0 g3 2) (I6 a.v.port) 16 (fun _ hS_ => run_ld (Fr.has hS_ (ab.get 0 rfl) (by simp)) rfl) aa (WDm 13 3 (P0 g8 2) (I6 b.v.port) 18 (fun _ hS_ => run_ld (Fr.has hS_ (ab.get 1 rfl) (by simp)) rfl) aa (WDc 4 (compare_api_Addr a.v.vip b.v.vip az) ?_))
 rintro _ aB ⟨rfl, ac⟩
 have ad := aa.trans ac (by simp)
 refine ⟨_, rfl, ad, ?_⟩
 have ap := ab.call ac
 refine WDc 9 (compare_int a.v.proto b.v.proto aB) ?_
 rintro _ aC ⟨rfl, ae⟩
 have af := ad.trans ae (by simp)
 refine ⟨_, rfl, af, ?_⟩
 have aq := ap.call ae
 refine WDc 14 (compare_int a.v.port b.v.port aC) ?_
 rintro _ aH ⟨rfl, ag⟩
 have ah := af.trans ag (by simp)
 refine ⟨_, rfl, ah, ?_⟩
 have ar := aq.call ag
 refine WD.new 15 (fun b => .slice (some ⟨b, 0, none⟩) 3 3) (.cells #[I6 (cmpI a.v.vip b.v.vip), I6 (cmpI a.v.proto b.v.proto), I6 (cmpI a.v.port b.v.port)] 3) (by kernel_rfl) rfl rfl rfl rfl rfl (fun _ => by kernel_rfl) (fun aD aE au aF ai av => ?_)
 have aj := ar.callB ai au av
 have ak := ah.trans ai (by simp)
 refine ⟨ak, ?_⟩
 refine WDc 16 (or_int (some ⟨aD, 0, none⟩) 3 [cmpI a.v.vip b.v.vip, cmpI a.v.proto b.v.proto, cmpI a.v.port b.v.port] aE (Rd.blk (aj.get 2 rfl) (encI_len _) rfl) (by simp)) ?_
 rintro _ aI ⟨rfl, al⟩
 have am := ak.trans al (by simp)
 refine ⟨_, rfl, am, ?_⟩
 have aw := aj.call al
 refine WDq 17 4 (I6 (orI [cmpI a.v.vip b.v.vip, cmpI a.v.proto b.v.proto, cmpI a.v.port b.v.port])) am (WDd (QXn (ao _ _ (WC.ret ?_))))
 refine (hret _ _ _ rfl ?_).1
 exact ⟨rfl, aw.fr⟩

theorem byDip_ct (a b : SnatV) (w : World) : Calls Tryz.prog 81 #[.agg #[U4 a.dip, U4 a.vip], .agg #[U4 b.dip, U4 b.vip]] w fun e w' => e = .returned (I6 (cmp3 (kN a) (kN b))) ∧ Fr w w' [] := by
 refine enterD (n := 10) Tryz.func81 rfl rfl (Nat.le_of_ble_eq_true rfl) ?_
 intro Q0 hN hret hret'
 have hC := Cx.start w
 refine WCs (fun K1 hK2 => WCg (WLb hC (.cells #[U4 a.dip, U4 a.vip] 79) 2 (fun g3 w4 hb7 hF5 hC6 => WLb hC6 (.cells #[U4 b.dip, U4 b.vip] 79) 3 (fun g8 w9 ae af aa => WLq 1 [(4, I6 0)] (WLd rfl (QXn (hK2 _ _ (WCs (fun ag ab => ?_)))))))))
 refine WCg (WLq 1 [(5, P0 g3 0)] (WLo 40 (P0 g3 0) (U4 a.dip) 6 (run_ld (aa.get 0 rfl) rfl) (WLq 1 [(7, P0 g8 0)] (WLo 40 (P0 g8 0) (U4 b.dip) 8 (run_ld (aa.get 1 rfl) rfl) (WLk (compare_api_Addr a.dip b.dip w9) ?_)))))
 rintro _ ah ⟨rfl, ac⟩
 refine ⟨_, rfl, ?_⟩
 have ad := aa.call ac
 refine WLq 1 [(4, I6 (cmpI a.dip b.dip))] (WLd rfl (QXn (ab _ _ (WC.ret ?_))))
 refine (hret _ _ _ rfl ?_).1
 exact ⟨by show _ = Ending.returned (I6 (cmp3 (a.dip, 0, 0) (b.dip, 0, 0))); rw [cmp3_one]; rfl, ad.fr⟩

theorem byAddr_ct (a b : Int) (w : World) : Calls Tryz.prog 68 #[.int .u32 a, .int .u32 b] w fun e w' => e = .returned (.int .i64 (cmp3 (kA a) (kA b))) ∧ Fr w w' [] := by
  rw [show cmp3 (kA a) (kA b) = cmpI a b from cmp3_one a b]
  exact compare_api_Addr a b w
theorem BSFS (A : Option Addr) (c : Nat) (xs : List Svc) (l : Svc) (w : World) (hr : Rd w 4 cellsS A xs) (hs : sortK kS xs) (hm : xs.length < 2 ^ 40) : Calls Tryz.prog 78 #[.slice A xs.length c, .agg #[U4 l.v.vip, I6 l.v.proto, I6 l.v.port, .slice l.a l.v.ends.length l.c], .func (.func 37) #[] #[]] w fun e w' => e = .returned (.tuple #[I6 (rankK kS (kS l) xs : Int), .bool (hasK kS (kS l) xs)]) ∧ Fr w w' [] := by
 refine enterD (n := 49) Tryz.func78 rfl rfl (Nat.le_of_ble_eq_true rfl) ?_
 intro Q0 hN hret hret'
 have hC := Cx.start w
 refine WCs (fun K1 hK2 => WCg (WLb hC (.cells #[U4 l.v.vip, I6 l.v.proto, I6 l.v.port, .slice l.a l.v.ends.length l.c] 43) 4 (fun g3 w4 hb7 hF5 hC6 => WLq 2 [(7, .bool false), (6, I6 0)] (WLd rfl (QXn (hK2 _ _ (WCs (fun K8 hK9 => WCg ?_))))))))
 refine WLz 3 [(8, I6 (xs.length : Int))] (WLd rfl (QXn (hK9 _ _ (WCs (fun aQ ah => WCg (WLz 3 [(10, I6 (xs.length : Int)), (9, I6 0)] (WLd rfl (QXn (ah _ _ (WCs (fun aR ai => WC.block ?_)))))))))))
 refine WC.loop (fun m_ E_ w_ => ∃ (i j : Nat), m_ = j - i ∧ E_ = [(0, .slice A xs.length c), (1, .agg #[U4 l.v.vip, I6 l.v.proto, I6 l.v.port, .slice l.a l.v.ends.length l.c]), (2, .func (.func 37) #[] #[]), (4, P0 g3 0), (6, I6 0), (7, .bool false), (8, I6 (xs.length : Int)), (9, I6 (i : Int)), (10, I6 (j : Int))] ∧ Cx w [] w_ [(g3, .cells #[U4 l.v.vip, I6 l.v.proto, I6 l.v.port, .slice l.a l.v.ends.length l.c] 43)] [] ∧ (i ≤ j ∧ j ≤ xs.length ∧ (∀ q y, q < i → xs[q]? = some y → lt3 (kS y) (kS l) = true) ∧ (∀ q y, j ≤ q → xs[q]? = some y → lt3 (kS y) (kS l) = false))) ⟨_, _, ⟨0, xs.length, rfl, rfl, hC6, Nat.zero_le _, Nat.le_refl _, fun q y hq => by omega, fun q y hq hy => by have := (List.getElem?_eq_some_iff.1 hy).1; omega⟩, sub_of ⟨rfl, rfl, rfl, rfl, rfl, rfl, rfl, rfl, rfl, trivial⟩⟩ (fun m17 E_ aS aT aq az => ?_)
 obtain ⟨i, j, rfl, rfl, ar, hij, hj, hlo, hhi⟩ := az
 refine WCs (fun aU aj => WCs (fun aV ak => WCg (WLz 3 [(17, .bool (decide ((i : Int) < (j : Int))))] (WLd rfl (QXn (ak _ _ (WCa 17 (decide ((i : Int) < (j : Int))) rfl (fun al => ?_) (fun al => ?_))))))))
 ·
  have aK : (i : Int) < (j : Int) := by have q_ := of_decide_eq_true al; omega
  refine WCt rfl (WC.skip (QXn (aj _ _ (WC.block (WCs (fun aW aA => WCg ?_))))))
  refine WLz 3 [(20, I6 (IntKind.i64.wrap ((i : Int) + (j : Int))))] (WLt (show (I6 (IntKind.i64.wrap ((i : Int) + (j : Int))) : Value) = I6 ((i : Int) + (j : Int)) from by rw [wrap_in_i64 ((i : Int) + (j : Int)) (by omega) (by omega)]) (WLq 1 [(21, .int .u64 (IntKind.u64.wrap ((i : Int) + (j : Int))))] (WLt (show (.int .u64 (IntKind.u64.wrap ((i : Int) + (j : Int))) : Value) = .int .u64 ((i : Int) + (j : Int)) from by rw [wrap_in_u64 ((i : Int) + (j : Int)) (by omega) (by omega)]) (WLq 1 [(22, .int .u64 (((i : Int) + (j : Int)).fdiv (2 ^ 1)))] (WLt (show (.int .u64 (((i : Int) + (j : Int)).fdiv (2 ^ 1)) : Value) = .int .u64 (((i : Int) + (j : Int)) / 2) from by rw [Int.fdiv_eq_ediv_of_nonneg ((i : Int) + (j : Int)) (by decide)]; rfl) ?_)))))
  refine WLq 1 [(23, I6 (IntKind.i64.wrap (((i : Int) + (j : Int)) / 2)))] (WLt (show (I6 (IntKind.i64.wrap (((i : Int) + (j : Int)) / 2)) : Value) = I6 (((i + j) / 2 : Nat) : Int) from by rw [wrap_in_i64 _ (by omega) (by omega)]; congr 1) (WLq 1 [(11, I6 (((i + j) / 2 : Nat) : Int))] (WLd rfl (QXn (aA _ _ (WCs (fun aX aB => WC.drawC ar [] (by kernel_rfl) (fun aL aM am ad => WDx 3 [(0, 24, .func (.func 37) #[] #[]), (1, 25, .slice A xs.length c), (2, 26, I6 (((i + j) / 2 : Nat) : Int))] ad ?_))))))))
  obtain ⟨ab, an⟩ := get_some (xs := xs) (i := ((i + j) / 2)) (by omega)
  obtain ⟨b35, o37, aC, aD⟩ := hr.at_ _ _ an
  refine WDi (NPt (NPb (NPt (NPb (NPt hN))))) 3 A xs.length c 27 .i64 (((i + j) / 2 : Nat) : Int) b35 o37 ((i + j) / 2) 4 (by kernel_rfl) (by kernel_rfl) aC (by omega) (by omega) (o37 + ((i + j) / 2) * 4) (by first | (simp; done) | omega) ad (WDm 4 43 (P0 b35 (o37 + ((i + j) / 2) * 4)) (.agg #[U4 ab.v.vip, I6 ab.v.proto, I6 ab.v.port, .slice ab.a ab.v.ends.length ab.c]) 28 (fun _ hS_ => run_rdN (l := [U4 ab.v.vip, I6 ab.v.proto, I6 ab.v.port, .slice ab.a ab.v.ends.length ab.c]) rfl rfl (fun j u hu => by have hq_ := Fr.cell hS_ (am.fr.cell (aD j u hu) (by simp)) (by simp); simpa [Nat.add_assoc] using hq_)) ad (WDm 5 43 (P0 g3 0) (.agg #[U4 l.v.vip, I6 l.v.proto, I6 l.v.port, .slice l.a l.v.ends.length l.c]) 29 (fun _ hS_ => run_ld (Fr.has hS_ (am.get 0 rfl) (by simp)) rfl) ad (WDc 6 (byName_ct ab l aL) ?_)))
  rintro _ aY ⟨rfl, au⟩
  have av := ad.trans au (by simp)
  refine ⟨_, rfl, av, ?_⟩
  have aw := am.call au
  refine WDq 7 31 (.bool (decide ((cmp3 (kS ab) (kS l)) < 0))) av (WDd (QXn (aB _ _ (WCa 31 (decide ((cmp3 (kS ab) (kS l)) < 0)) rfl (fun ao => ?_) (fun ao => ?_)))))
  ·
   have aJ : (cmp3 (kS ab) (kS l)) < 0 := by have q_ := of_decide_eq_true ao; omega
   refine WCt rfl (WCg (WLz 2 [(33, I6 (IntKind.i64.wrap ((((i + j) / 2 : Nat) : Int) + 1)))] (WLt (show (I6 (IntKind.i64.wrap ((((i + j) / 2 : Nat) : Int) + 1)) : Value) = I6 ((((i + j) / 2 : Nat) : Int) + 1) from by rw [wrap_in_i64 ((((i + j) / 2 : Nat) : Int) + 1) (by omega) (by omega)]) (WLq 1 [(9, I6 ((((i + j) / 2 : Nat) : Int) + 1))] (WLd rfl ?_)))))
   refine QXb (QXn ?_)
   have aE := aw.pick [0] [] rfl rfl
   refine fun a_ ha_ => aq _ _ _ ?_ ⟨((i + j) / 2) + 1, j, rfl, rfl, aE, by omega, by omega, bsK_lo hs an (cmp3_lt.1 aJ), hhi⟩ a_ (ha_.weaken (sub_of ⟨rfl, rfl, rfl, rfl, rfl, rfl, rfl, rfl, rfl, trivial⟩))
   omega
  ·
   have aJ : (0 : Int) ≤ (cmp3 (kS ab) (kS l)) := by have q_ := of_decide_eq_false ao; omega
   refine WCf rfl (WCg (WLz 2 [(10, I6 (((i + j) / 2 : Nat) : Int))] (WLd rfl (QXb (QXn ?_)))))
   have aF := aw.pick [0] [] rfl rfl
   refine fun a_ ha_ => aq _ _ _ ?_ ⟨i, ((i + j) / 2), rfl, rfl, aF, by omega, by omega, hlo, bsK_hi hs an (cmp3_not (by omega))⟩ a_ (ha_.weaken (sub_of ⟨rfl, rfl, rfl, rfl, rfl, rfl, rfl, rfl, rfl, trivial⟩))
   omega
 ·
  have aK : (j : Int) ≤ (i : Int) := by have q_ := of_decide_eq_false al; omega
  refine WCf rfl (WC.exit (QXe (QXe (QX.block_hit (QXn (ai _ _ ?_))))))
  refine WCs (fun aZ af => WC.drawC ar [] (by kernel_rfl) (fun aN aO ag aa => WDx 5 [(0, 35, I6 (i : Int)), (1, 36, I6 (i : Int)), (2, 37, I6 (xs.length : Int)), (3, 38, .bool (decide ((i : Int) < (xs.length : Int)))), (4, 39, .bool (decide ((i : Int) < (xs.length : Int))))] aa (WDa 39 (decide ((i : Int) < (xs.length : Int))) rfl (fun ap => ?_) (fun ap => ?_))))
  ·
   have aP : (i : Int) < (xs.length : Int) := by have q_ := of_decide_eq_true ap; omega
   refine WDx 3 [(5, 40, .func (.func 37) #[] #[]), (6, 41, .slice A xs.length c), (7, 42, I6 (i : Int))] aa ?_
   obtain ⟨ac, ax⟩ := get_some (xs := xs) (i := i) (by omega)
   obtain ⟨b55, o57, aG, aH⟩ := hr.at_ _ _ ax
   refine WDi (NPt hN) 8 A xs.length c 43 .i64 (i : Int) b55 o57 i 4 (by kernel_rfl) (by kernel_rfl) aG (by omega) (by omega) (o57 + i * 4) (by first | (simp; done) | omega) aa (WDm 9 43 (P0 b55 (o57 + i * 4)) (.agg #[U4 ac.v.vip, I6 ac.v.proto, I6 ac.v.port, .slice ac.a ac.v.ends.length ac.c]) 44 (fun _ hS_ => run_rdN (l := [U4 ac.v.vip, I6 ac.v.proto, I6 ac.v.port, .slice ac.a ac.v.ends.length ac.c]) rfl rfl (fun j u hu => by have hq_ := Fr.cell hS_ (ag.fr.cell (aH j u hu) (by simp)) (by simp); simpa [Nat.add_assoc] using hq_)) aa (WDm 10 43 (P0 g3 0) (.agg #[U4 l.v.vip, I6 l.v.proto, I6 l.v.port, .slice l.a l.v.ends.length l.c]) 45 (fun _ hS_ => run_ld (Fr.has hS_ (ag.get 0 rfl) (by simp)) rfl) aa (WDc 11 (byName_ct ac l aN) ?_)))
   rintro _ a0 ⟨rfl, ay⟩
   have ae := aa.trans ay (by simp)
   refine ⟨_, rfl, ae, ?_⟩
   have aI := ag.call ay
   refine WDx 4 [(12, 47, .bool ((cmp3 (kS ac) (kS l)) == 0)), (13, 48, .bool ((cmp3 (kS ac) (kS l)) == 0)), (14, 6, I6 (i : Int)), (15, 7, .bool ((cmp3 (kS ac) (kS l)) == 0))] ae (WDd (QXn (af _ _ (WC.ret ?_))))
   refine (hret _ _ _ rfl ?_).1
   clear hN hret hret' af ak aj ai ah hK9 hK2
   have e_ : i = j := by omega
   subst e_
   have hr_ := rank_of hj hlo hhi
   exact ⟨by rw [hr_]; exact congrArg (fun b_ => Ending.returned (.tuple #[I6 (i : Int), .bool b_])) (by rw [has_at hhi hlo hs ax]), aI.fr⟩
  ·
   have aP : (xs.length : Int) ≤ (i : Int) := by have q_ := of_decide_eq_false ap; omega
   refine WDx 11 [(5, 40, undef), (6, 41, undef), (7, 42, undef), (8, 43, undef), (9, 44, undef), (10, 45, undef), (11, 46, undef), (12, 47, undef), (13, 48, .bool false), (14, 6, I6 (i : Int)), (15, 7, .bool false)] aa (WDd (QXn (af _ _ (WC.ret ?_))))
   refine (hret _ _ _ rfl ?_).1
   clear hN hret hret' af ak aj ai ah hK9 hK2
   have e_ : i = j := by omega
   subst e_
   have hr_ := rank_of hj hlo hhi
   exact ⟨by rw [hr_]; exact congrArg (fun b_ => Ending.returned (.tuple #[I6 (i : Int), .bool b_])) (by rw [has_end hlo (by omega)]), ag.fr⟩

theorem BSFS_n (A : Option Addr) (n c : Nat) (xs : List Svc) (l : Svc) (w : World) (hr : Rd w 4 cellsS A xs) (hn : xs.length = n) (hs : sortK kS xs) (hm : n < 2 ^ 40) : Calls Tryz.prog 78 #[.slice A n c, .agg #[.int .u32 l.v.vip, .int .i64 l.v.proto, .int .i64 l.v.port, .slice l.a l.v.ends.length l.c], .func (.func 37) #[] #[]] w fun e w' => e = .returned (.tuple #[.int .i64 (rankK kS (kS l) xs : Int), .bool (hasK kS (kS l) xs)]) ∧ Fr w w' [] := by subst hn; exact BSFS A c xs l w hr hs hm
theorem InsLtS (g b c n i : Nat) (L : List Value) (x : Svc) (w : World) (hg : w.heap[g]? = some (.cells L.toArray 43 (0, 0))) (hb : w.heap[b]? = some (.cells #[U4 x.v.vip, I6 x.v.proto, I6 x.v.port, .slice x.a x.v.ends.length x.c] 43 (0, 0))) (hne : b ≠ g) (hi : i < n) (hnc : n ≤ c) (hL : L.length = c * 4) (hcm : c ≤ maxLen) (h1 : (L.take (n * 4)).all Value.oneCell' = true) (hlim : n < 2 ^ 40) : Calls Tryz.prog 113 #[.slice (some ⟨g, 0, none⟩) n c, I6 (i : Int), .slice (some ⟨b, 0, none⟩) 1 1] w fun e w' => ∃ v, e = .returned v ∧ Fr w w' [g] ∧ w'.ownsRow 0 43 4 v (n + 1) (L.take (i * 4) ++ [U4 x.v.vip, I6 x.v.proto, I6 x.v.port, .slice x.a x.v.ends.length x.c] ++ (L.drop (i * 4)).take ((n - i) * 4)) ∧ (∀ y ∈ blk v, y = g ∨ w.heap.size ≤ y) := by
 refine enterD (n := 95) Tryz.func113 rfl rfl (Nat.le_of_ble_eq_true rfl) ?_
 intro Q0 hN hret hret'
 have hC := Cx.startM hg
 refine WCs (fun K1 hK2 => WCg (WLq 1 [(6, .slice none 0 0)] (WLd rfl (QXn (hK2 _ _ (WCs (fun K3 hK4 => WCg (WLq 2 [(11, I6 (i : Int)), (10, .slice (some ⟨g, 0, none⟩) n c)] ?_))))))))
 have hb5 : n ≤ c := by omega
 refine WL.slc 26 43 4 (some ⟨g, 0, none⟩) (some ⟨g, i * 4, none⟩) n c i n (n - i) (c - i) (some (I6 (i : Int))) none 12 (by kernel_rfl) (by kernel_rfl) (bnd.yes (by omega)) bnd.no (by omega) hb5 (slcAt_blk (by omega) (by simp)) (by first | rfl | omega) (by first | rfl | omega) (WLd rfl (QXn (hK4 _ _ (WCs (fun K6 hK7 => WCg (WLz 3 [(7, I6 1)] (WLd rfl (QXn (hK7 _ _ (WCs (fun K8 hK9 => ?_)))))))))))
 refine WCs (fun a5 ag => WCg (WLz 2 [(16, .bool false)] (WLd rfl (QXn (ag _ _ (WCf rfl (WC.skip (QXn (hK9 _ _ (WCs (fun a6 ah => WCg ?_)))))))))))
 refine WLz 3 [(8, I6 (n : Int))] (WLd rfl (QXn (ah _ _ (WCs (fun a7 ai => WCs (fun a8 aj => WCg (WLz 3 [(22, .bool ((i : Int) == (n : Int)))] (WLd rfl (QXn (aj _ _ (WC.know 22 (.bool ((i : Int) == (n : Int))) (.bool false) rfl (congrArg Value.bool (by simp; omega)) ?_)))))))))))
 refine WCf rfl (WC.skip (QXn (ai _ _ (WCs (fun a9 ak => WCs (fun ba al => WCg (WLz 3 [(28, I6 (IntKind.i64.wrap ((n : Int) + 1)))] (WLt (show (I6 (IntKind.i64.wrap ((n : Int) + 1)) : Value) = I6 ((n : Int) + 1) from by rw [wrap_in_i64 ((n : Int) + 1) (by omega) (by omega)]) ?_))))))))
 refine WLz 3 [(31, .bool (decide (((n : Int) + 1) > (c : Int))))] (WLd rfl (QXn (al _ _ (WCa 31 (decide (((n : Int) + 1) > (c : Int))) rfl (fun ae => ?_) (fun ae => ?_)))))
 ·
  have aX : (c : Int) < ((n : Int) + 1) := by have q_ := of_decide_eq_true ae; omega
  refine WCt rfl (WCs (fun bb am => WCg (WLq 2 [(33, I6 (i : Int)), (32, .slice (some ⟨g, 0, none⟩) n c)] ?_)))
  have ay : i ≤ c := by omega
  refine WL.slc 26 43 4 (some ⟨g, 0, none⟩) (some ⟨g, 0, none⟩) n c 0 i i c none (some (I6 (i : Int))) 34 (by kernel_rfl) (by kernel_rfl) bnd.no (bnd.yes (by omega)) (by omega) ay (slcAt_pre _ _ _) (by first | rfl | omega) (by first | rfl | omega) (WLz 3 [(37, I6 (IntKind.i64.wrap ((n : Int) + 1)))] (WLt (show (I6 (IntKind.i64.wrap ((n : Int) + 1)) : Value) = I6 ((n : Int) + 1) from by rw [wrap_in_i64 ((n : Int) + 1) (by omega) (by omega)]) (WLz 2 [(39, I6 (IntKind.i64.wrap (((n : Int) + 1) - (i : Int))))] (WLt (show (I6 (IntKind.i64.wrap (((n : Int) + 1) - (i : Int))) : Value) = I6 (((n : Int) + 1) - (i : Int)) from by rw [wrap_in_i64 (((n : Int) + 1) - (i : Int)) (by omega) (by omega)]) ?_))))
  obtain ⟨ad, aa, bc, az, aW, aY, aZ, an, af⟩ := appZ_run Tryz.prog hC 26 3 26 43 4 48 i c (n + 1 - i) (z := (.agg #[U4 0, I6 0, I6 0, .slice none 0 0])) (xs := (L.drop 0).take (i * 4)) rfl rfl (by kernel_rfl) (by decide) (by simp; omega) (srcOk.part (hC.get 0 rfl)) (by omega) (by omega) (by omega) (((n : Int) + 1) - (i : Int)) (by omega)
  have hL2l : ((L.drop 0).take (i * 4) ++ (Builtin.zeroCells (.agg #[U4 0, I6 0, I6 0, .slice none 0 0] : Value).cells (n + 1 - i)).toList ++ (Builtin.zeroCells (.agg #[U4 0, I6 0, I6 0, .slice none 0 0] : Value).cells (aa - (i + (n + 1 - i)))).toList).length = aa * 4 := by simp [size_zeroCells, Value.cells]; omega
  have hL2t : ((L.drop 0).take (i * 4) ++ (Builtin.zeroCells (.agg #[U4 0, I6 0, I6 0, .slice none 0 0] : Value).cells (n + 1 - i)).toList ++ (Builtin.zeroCells (.agg #[U4 0, I6 0, I6 0, .slice none 0 0] : Value).cells (aa - (i + (n + 1 - i)))).toList).take (i * 4) = L.take (i * 4) := by rw [List.append_assoc, List.take_append_of_le_length (by simp; omega)]; simp [List.take_take]
  generalize hL2 : ((L.drop 0).take (i * 4) ++ (Builtin.zeroCells (.agg #[U4 0, I6 0, I6 0, .slice none 0 0] : Value).cells (n + 1 - i)).toList ++ (Builtin.zeroCells (.agg #[U4 0, I6 0, I6 0, .slice none 0 0] : Value).cells (aa - (i + (n + 1 - i)))).toList) = L2 at af hL2l hL2t
  refine WL.sem (Builtin.append_ #[26, 3] 26 #[.slice (some ⟨g, 0, none⟩) i c, I6 (((n : Int) + 1) - (i : Int))]) 40 (.slice (some ⟨ad, 0, none⟩) (i + (n + 1 - i)) aa) (by kernel_rfl) az (WLq 1 [(9, .slice (some ⟨ad, 0, none⟩) (i + (n + 1 - i)) aa)] (WLd rfl (QXn (am _ _ (WCs (fun bd ao => WCg (WLq 2 [(42, I6 (i : Int)), (41, .slice (some ⟨ad, 0, none⟩) (i + (n + 1 - i)) aa)] ?_)))))))
  have aA : i + (n + 1 - i) ≤ aa := by omega
  refine WL.slc 26 43 4 (some ⟨ad, 0, none⟩) (some ⟨ad, i * 4, none⟩) (i + (n + 1 - i)) aa i (i + (n + 1 - i)) ((i + (n + 1 - i)) - i) (aa - i) (some (I6 (i : Int))) none 43 (by kernel_rfl) (by kernel_rfl) (bnd.yes (by omega)) bnd.no (by omega) aA (slcAt_blk (by omega) (by simp)) (by first | rfl | omega) (by first | rfl | omega) (WLq 1 [(44, .slice (some ⟨b, 0, none⟩) 1 1)] ?_)
  obtain ⟨be, aB, a0, aC⟩ := copy_run Tryz.prog af 1 26 26 3 43 4 ad (i * 4) ((i + (n + 1 - i)) - i) (aa - i) 1 1 1 (some ⟨b, 0, none⟩) [U4 x.v.vip, I6 x.v.proto, I6 x.v.port, .slice x.a x.v.ends.length x.c] rfl rfl (by show min _ _ = _; omega) rfl (srcOk.blk 1 (af.fr.has hb (by simpa using hne))) (by simp; omega) rfl
  refine WLS 45 aB (WLd rfl (QXn (ao _ _ (WCs (fun bf ap => WC.drawC aC [ad] (by kernel_rfl) (fun bg a1 aq ab => WDx 4 [(0, 46, .slice (some ⟨ad, 0, none⟩) (i + (n + 1 - i)) aa), (1, 47, I6 (i : Int)), (2, 48, I6 1), (3, 49, I6 (IntKind.i64.wrap ((i : Int) + 1)))] ab (WD.recast (show (I6 (IntKind.i64.wrap ((i : Int) + 1)) : Value) = I6 ((i : Int) + 1) from by rw [wrap_in_i64 ((i : Int) + 1) (by omega) (by omega)]) ?_)))))))
  have aD : i + (n + 1 - i) ≤ aa := by omega
  refine WD.slc (NPt (NPt hN)) 4 26 43 4 (some ⟨ad, 0, none⟩) (some ⟨ad, (i + 1) * 4, none⟩) (i + (n + 1 - i)) aa (i + 1) (i + (n + 1 - i)) ((i + (n + 1 - i)) - (i + 1)) (aa - (i + 1)) (some (I6 ((i : Int) + 1))) none 50 (by kernel_rfl) (by kernel_rfl) (by kernel_rfl) (bnd.yes (by omega)) bnd.no (by omega) aD (slcAt_blk (by omega) (by simp)) (by first | rfl | omega) (by first | rfl | omega) ab (WDx 2 [(5, 51, .slice (some ⟨g, 0, none⟩) n c), (6, 52, I6 (i : Int))] ab ?_)
  have aE : n ≤ c := by omega
  refine WD.slc (NPt (NPt hN)) 7 26 43 4 (some ⟨g, 0, none⟩) (some ⟨g, i * 4, none⟩) n c i n (n - i) (c - i) (some (I6 (i : Int))) none 53 (by kernel_rfl) (by kernel_rfl) (by kernel_rfl) (bnd.yes (by omega)) bnd.no (by omega) aE (slcAt_blk (by omega) (by simp)) (by first | rfl | omega) (by first | rfl | omega) ab ?_
  obtain ⟨bh, aF, aG, ar⟩ := copy_run Tryz.prog aq 1 26 26 3 43 4 ad ((i + 1) * 4) ((i + (n + 1 - i)) - (i + 1)) (aa - (i + 1)) (n - i) (c - i) (n - i) (some ⟨g, i * 4, none⟩) ((L.drop (i * 4)).take ((n - i) * 4)) rfl rfl (by show min _ _ = _; omega) (by simp; omega) (srcOk.part (aq.get 0 rfl)) (by simp; omega) (all_part h1 (by omega))
  have aH := ab.trans aG (by simp)
  refine WDs 8 54 aF aH (WDd (QXn (ap _ _ (WCs (fun bi au => WCg (WLz 2 [(6, .slice (some ⟨ad, 0, none⟩) (i + (n + 1 - i)) aa)] (WLd rfl (QXn (au _ _ ?_)))))))))
  refine WC.ret (QXr ?_)
  refine (hret _ _ _ rfl ?_).1
  clear hN hret hret' au ap ao am al ak aj ai ah ag hK9 hK7 hK4 hK2
  refine ⟨_, rfl, ar.fr, ?_, by intro y hy; simp [shut, blk, Value.ownBlock] at hy; omega⟩
  rw [show i + (n + 1 - i) = n + 1 from by omega]
  exact own_of_blk (Nat.zero_le _) (ar.get 1 rfl) (by omega) an (by simp; omega) ((insAz 4 L2 [U4 x.v.vip, I6 x.v.proto, I6 x.v.port, .slice x.a x.v.ends.length x.c] ((L.drop (i * 4)).take ((n - i) * 4)) i n rfl (by simp; omega) (by omega) hi).trans (by rw [hL2t]))
 ·
  have aX : ((n : Int) + 1) ≤ (c : Int) := by have q_ := of_decide_eq_false ae; omega
  refine WCf rfl (WC.skip (QXn (ak _ _ (WCs (fun bj aI => WCg (WLz 4 [(59, I6 (IntKind.i64.wrap ((n : Int) + 1))), (56, .slice (some ⟨g, 0, none⟩) n c)] (WLt (show (I6 (IntKind.i64.wrap ((n : Int) + 1)) : Value) = I6 ((n : Int) + 1) from by rw [wrap_in_i64 ((n : Int) + 1) (by omega) (by omega)]) ?_)))))))
  have aJ : n + 1 ≤ c := by omega
  refine WL.slc 26 43 4 (some ⟨g, 0, none⟩) (some ⟨g, 0, none⟩) n c 0 (n + 1) (n + 1) c none (some (I6 ((n : Int) + 1))) 60 (by kernel_rfl) (by kernel_rfl) bnd.no (bnd.yes (by omega)) (by omega) aJ (slcAt_pre _ _ _) (by first | rfl | omega) (by first | rfl | omega) (WLq 1 [(0, .slice (some ⟨g, 0, none⟩) (n + 1) c)] (WLd rfl (QXn (aI _ _ (WCs (fun bk a2 => WCs (fun bl aK => WCg (WLz 5 [(65, I6 (IntKind.i64.wrap ((i : Int) + 1))), (62, .slice (some ⟨g, 0, none⟩) (n + 1) c), (61, .slice (some ⟨b, 0, none⟩) 1 1)] ?_))))))))
  refine WLt (show (I6 (IntKind.i64.wrap ((i : Int) + 1)) : Value) = I6 ((i : Int) + 1) from by rw [wrap_in_i64 ((i : Int) + 1) (by omega) (by omega)]) ?_
  have aL : n + 1 ≤ c := by omega
  refine WL.slc 26 43 4 (some ⟨g, 0, none⟩) (some ⟨g, (i + 1) * 4, none⟩) (n + 1) c (i + 1) (n + 1) ((n + 1) - (i + 1)) (c - (i + 1)) (some (I6 ((i : Int) + 1))) none 66 (by kernel_rfl) (by kernel_rfl) (bnd.yes (by omega)) bnd.no (by omega) aL (slcAt_blk (by omega) (by simp)) (by first | rfl | omega) (by first | rfl | omega) (WL.ext 143 #[.slice (some ⟨b, 0, none⟩) 1 1, .slice (some ⟨g, (i + 1) * 4, none⟩) ((n + 1) - (i + 1)) (c - (i + 1))] 67 (.bool false) (by kernel_rfl) (run_overlaps (fn := Tryz.f143) (tS := 26) (tR := 4) (e := 43) (sz := 4) rfl (by kernel_rfl) (by kernel_rfl) (by kernel_rfl) (by kernel_rfl) (by kernel_rfl) (hC.fr.has hb (by simpa using hne)) (hC.get 0 rfl) hne (by rw [List.size_toArray]; omega)) (WLq 1 [(68, .bool true)] (WLd rfl (QXn (aK _ _ (WCt rfl (WCs (fun bm aM => WC.drawC hC [g] (by kernel_rfl) (fun bn a3 av ac => ?_)))))))))
  refine WDx 4 [(0, 69, .slice (some ⟨g, 0, none⟩) (n + 1) c), (1, 70, I6 (i : Int)), (2, 71, I6 1), (3, 72, I6 (IntKind.i64.wrap ((i : Int) + 1)))] ac (WD.recast (show (I6 (IntKind.i64.wrap ((i : Int) + 1)) : Value) = I6 ((i : Int) + 1) from by rw [wrap_in_i64 ((i : Int) + 1) (by omega) (by omega)]) ?_)
  have aN : n + 1 ≤ c := by omega
  refine WD.slc (NPt (NPt hN)) 4 26 43 4 (some ⟨g, 0, none⟩) (some ⟨g, (i + 1) * 4, none⟩) (n + 1) c (i + 1) (n + 1) ((n + 1) - (i + 1)) (c - (i + 1)) (some (I6 ((i : Int) + 1))) none 73 (by kernel_rfl) (by kernel_rfl) (by kernel_rfl) (bnd.yes (by omega)) bnd.no (by omega) aN (slcAt_blk (by omega) (by simp)) (by first | rfl | omega) (by first | rfl | omega) ac (WDx 2 [(5, 74, .slice (some ⟨g, 0, none⟩) (n + 1) c), (6, 75, I6 (i : Int))] ac ?_)
  have aO : n + 1 ≤ c := by omega
  refine WD.slc (NPt (NPt hN)) 7 26 43 4 (some ⟨g, 0, none⟩) (some ⟨g, i * 4, none⟩) (n + 1) c i (n + 1) ((n + 1) - i) (c - i) (some (I6 (i : Int))) none 76 (by kernel_rfl) (by kernel_rfl) (by kernel_rfl) (bnd.yes (by omega)) bnd.no (by omega) aO (slcAt_blk (by omega) (by simp)) (by first | rfl | omega) (by first | rfl | omega) ac ?_
  obtain ⟨bo, aP, aQ, aw⟩ := copy_run Tryz.prog av 0 26 26 3 43 4 g ((i + 1) * 4) ((n + 1) - (i + 1)) (c - (i + 1)) ((n + 1) - i) (c - i) (n - i) (some ⟨g, i * 4, none⟩) ((L.drop (i * 4)).take ((n - i) * 4)) rfl rfl (by show min _ _ = _; omega) (by simp; omega) (srcOk.part (av.get 0 rfl)) (by simp; omega) (all_part h1 (by omega))
  have aR := ac.trans aQ (by simp)
  refine WDs 8 77 aP aR (WDd (QXn (aM _ _ (WCs (fun bp aS => WCg (WLq 2 [(79, I6 (i : Int)), (78, .slice (some ⟨g, 0, none⟩) (n + 1) c)] ?_))))))
  have aT : n + 1 ≤ c := by omega
  refine WL.slc 26 43 4 (some ⟨g, 0, none⟩) (some ⟨g, i * 4, none⟩) (n + 1) c i (n + 1) ((n + 1) - i) (c - i) (some (I6 (i : Int))) none 80 (by kernel_rfl) (by kernel_rfl) (bnd.yes (by omega)) bnd.no (by omega) aT (slcAt_blk (by omega) (by simp)) (by first | rfl | omega) (by first | rfl | omega) (WLq 1 [(81, .slice (some ⟨b, 0, none⟩) 1 1)] ?_)
  obtain ⟨bq, aU, a4, ax⟩ := copy_run Tryz.prog aw 0 26 26 3 43 4 g (i * 4) ((n + 1) - i) (c - i) 1 1 1 (some ⟨b, 0, none⟩) [U4 x.v.vip, I6 x.v.proto, I6 x.v.port, .slice x.a x.v.ends.length x.c] rfl rfl (by show min _ _ = _; omega) rfl (srcOk.blk 1 (aw.fr.has hb (by simpa using hne))) (by simp; omega) rfl
  refine WLS 82 aU (WLd rfl (QXn (aS _ _ (WCs (fun br aV => WCg (WLz 2 [(6, .slice (some ⟨g, 0, none⟩) (n + 1) c)] (WLd rfl (QXn (aV _ _ (WC.ret ?_))))))))))
  refine QXr ?_
  refine (hret _ _ _ rfl ?_).1
  exact ⟨_, rfl, ax.fr, own_of_blk (Nat.zero_le _) (ax.get 0 rfl) (by omega) hcm (by simp; omega) (insBz 4 L [U4 x.v.vip, I6 x.v.proto, I6 x.v.port, .slice x.a x.v.ends.length x.c] ((L.drop (i * 4)).take ((n - i) * 4)) i n rfl (by simp; omega) (by omega) hi), by intro y hy; simp [shut, blk, Value.ownBlock] at hy; omega⟩

theorem InsEqS (A : Option Addr) (b n c : Nat) (xs : List Svc) (x : Svc) (w : World) (ho : w.ownsRow 0 43 4 (.slice A n c) n (xs.flatMap cellsS)) (hb : w.heap[b]? = some (.cells #[U4 x.v.vip, I6 x.v.proto, I6 x.v.port, .slice x.a x.v.ends.length x.c] 43 (0, 0))) (hne : b ∉ blk (.slice A n c)) (hlim : n < 2 ^ 40) : Calls Tryz.prog 113 #[.slice A n c, I6 (n : Int), .slice (some ⟨b, 0, none⟩) 1 1] w fun e w' => ∃ v, e = .returned v ∧ Fr w w' (blk (.slice A n c)) ∧ w'.ownsRow 0 43 4 v (n + 1) ((xs ++ [x]).flatMap cellsS) ∧ (∀ y ∈ blk v, y ∈ blk (.slice A n c) ∨ w.heap.size ≤ y) := by
 refine enterD (n := 95) Tryz.func113 rfl rfl (Nat.le_of_ble_eq_true rfl) ?_
 intro Q0 hN hret hret'
 have hle : n ≤ c := by obtain ⟨A_, c_, h1_, h2_⟩ := own_form ho; simp at h1_; omega
 have hC := Cx.start1 w (own_lt ho)
 refine WCs (fun K1 hK2 => WCg (WLq 1 [(6, .slice none 0 0)] (WLd rfl (QXn (hK2 _ _ (WCs (fun K3 hK4 => WCg (WLq 2 [(11, I6 (n : Int)), (10, .slice A n c)] ?_))))))))
 obtain ⟨A5, hA6⟩ : ∃ A_, slcAt A n c 4 = A_ := ⟨_, rfl⟩
 have hle_ := own_le ho
 have hb7 : n ≤ c := by omega
 refine WL.slc 26 43 4 A A5 n c n n (n - n) (c - n) (some (I6 (n : Int))) none 12 (by kernel_rfl) (by kernel_rfl) (bnd.yes (by omega)) bnd.no (by omega) hb7 hA6 (by first | rfl | omega) (by first | rfl | omega) (WLd rfl (QXn (hK4 _ _ (WCs (fun K8 hK9 => WCg (WLz 3 [(7, I6 1)] (WLd rfl (QXn (hK9 _ _ (WCs (fun aq ac => ?_)))))))))))
 refine WCs (fun ar ad => WCg (WLz 2 [(16, .bool false)] (WLd rfl (QXn (ad _ _ (WCf rfl (WC.skip (QXn (ac _ _ (WCs (fun au ae => WCg ?_)))))))))))
 refine WLz 3 [(8, I6 (n : Int))] (WLd rfl (QXn (ae _ _ (WCs (fun av ao => WCs (fun aw af => WCg (WLz 3 [(22, .bool ((n : Int) == (n : Int)))] (WLd rfl (QXn (af _ _ (WC.know 22 (.bool ((n : Int) == (n : Int))) (.bool true) rfl (congrArg Value.bool (by simp)) ?_)))))))))))
 refine WCt rfl (WCs (fun ax ag => WCg (WLq 2 [(24, .slice (some ⟨b, 0, none⟩) 1 1), (23, .slice A n c)] ?_)))
 obtain ⟨ay, az, ah, ai, ap, aj, ak, aa⟩ := app_run Tryz.prog hC 0 (v := .slice A n c) rfl 26 26 43 4 48 n 1 1 (some ⟨b, 0, none⟩) rfl ho [U4 x.v.vip, I6 x.v.proto, I6 x.v.port, .slice x.a x.v.ends.length x.c] rfl (srcOk.blk 1 (hC.fr.has hb hne)) rfl (by simp only [maxLen]; omega) (by omega)
 have ab := own_snoc (enc := cellsS) (ys := xs) x ai
 obtain ⟨al, am, rfl, an⟩ := own_form ab
 refine WLS 25 ah (WLq 1 [(6, .slice al (n + 1) am)] (WLd rfl (QXn (ag _ _ (WC.ret (QXr ?_))))))
 refine (hret _ _ _ rfl ?_).1
 exact ⟨_, rfl, aj.fr, by simpa [shut] using ab, aa⟩

theorem InsS_ct (A : Option Addr) (b n c i : Nat) (xs : List Svc) (x : Svc) (w : World) (ho : w.ownsRow 0 43 4 (.slice A n c) n (xs.flatMap cellsS)) (hb : w.heap[b]? = some (.cells #[.int .u32 x.v.vip, .int .i64 x.v.proto, .int .i64 x.v.port, .slice x.a x.v.ends.length x.c] 43 (0, 0))) (hne : b ∉ blk (.slice A n c)) (hi : i ≤ n) (hlim : n < 2 ^ 40) : Calls Tryz.prog 113 #[.slice A n c, .int .i64 (i : Int), .slice (some ⟨b, 0, none⟩) 1 1] w fun e w' => ∃ v, e = .returned v ∧ Fr w w' (blk (.slice A n c)) ∧ w'.ownsRow 0 43 4 v (n + 1) ((xs.take i ++ x :: xs.drop i).flatMap cellsS) ∧ (∀ y ∈ blk v, y ∈ blk (.slice A n c) ∨ w.heap.size ≤ y) := by
  have hcount := own_count cellsS_len (by decide) ho
  by_cases e : i = n
  · subst e
    refine (InsEqS A b i c xs x w ho hb hne hlim).mono fun e w' h => ?_
    rwa [← hcount, List.take_length, List.drop_length, hcount]
  · have hlt : i < n := by omega
    obtain ⟨g, cur, rfl, hg, hh, hnc, hcm, hsz, htk⟩ := own_blkd ho (by omega)
    have hbg : b ≠ g := by simpa [blk, Value.ownBlock] using hne
    have h1 : (cur.toList.take (n * 4)).all Value.oneCell' = true := by rw [htk]; exact flat_oneS cellsS_one _
    refine (InsLtS g b c n i cur.toList x w (by simpa using hh) hb hbg hlt hnc (by simpa using hsz) hcm h1 hlim).mono fun e w' h => ?_
    obtain ⟨v, he, hf, hown, hsub⟩ := h
    refine ⟨v, he, by simpa [blk, Value.ownBlock] using hf, ?_, by simpa [blk, Value.ownBlock] using hsub⟩
    have e1 : cur.toList.take (i * 4) = (xs.take i).flatMap cellsS := by rw [← flat_take cellsS_len, ← htk, List.take_take, Nat.min_eq_left (by omega)]
    have e2 : (cur.toList.drop (i * 4)).take ((n - i) * 4) = (xs.drop i).flatMap cellsS := by rw [← flat_drop cellsS_len, ← htk, List.drop_take]; congr 1; omega
    rw [e1, e2] at hown
    simpa [cellsS] using hown
theorem DelS (A : Option Addr) (n c i : Nat) (xs : List Svc) (w : World) (ho : w.ownsRow 0 43 4 (.slice A n c) n (xs.flatMap cellsS)) (hi : i < n) (hlim : n < 2 ^ 40) : Calls Tryz.prog 112 #[.slice A n c, I6 (i : Int), I6 ((i : Int) + 1)] w fun e w' => e = .returned (.slice A (n - 1) c) ∧ Fr w w' (blk (.slice A n c)) ∧ w'.ownsRow 0 43 4 (.slice A (n - 1) c) (n - 1) ((xs.take i ++ xs.drop (i + 1)).flatMap cellsS) := by
 refine enterD (n := 33) Tryz.func112 rfl rfl (Nat.le_of_ble_eq_true rfl) ?_
 intro Q0 hN hret hret'
 have hC := Cx.start1 w (own_lt ho)
 have hle : n ≤ c := own_le ho
 have hcnt := own_count cellsS_len (by decide) ho
 refine WCs (fun K1 hK2 => WCg (WLq 1 [(6, .slice none 0 0)] (WLd rfl (QXn (hK2 _ _ (WCs (fun K3 hK4 => WCg (WLz 5 [(12, I6 (n : Int)), (10, I6 ((i : Int) + 1)), (9, I6 (i : Int)), (8, .slice A n c)] ?_))))))))
 have hr5 := fun w_ => run_slc3 (P := Tryz.prog) (w := w_) (t := 26) (e := 43) (sz := 4) (A := A) (nn := n) (c := c) (l := i) (h := i + 1) (m := n) (kl := .i64) (kh := .i64) (km := .i64) (il := (i : Int)) (ih := (i : Int) + 1) (im := (n : Int)) (by kernel_rfl) rfl (by omega) rfl (by omega) (by omega) (by omega)
 refine WL.sem (Instr.sliceAt 26 (.slice A n c) (some (I6 (i : Int))) (some (I6 ((i : Int) + 1))) (some (I6 (n : Int)))) 13 (.slice (slcAt A i n 4) (i + 1 - i) (n - i)) (by kernel_rfl) (hr5 _) (WLd rfl (QXn (hK4 _ _ (WCs (fun K6 hK7 => WCs (fun K8 hK9 => WCg (WLz 3 [(16, .bool ((i : Int) == ((i : Int) + 1)))] (WLd rfl (QXn (hK9 _ _ ?_))))))))))
 refine WC.know 16 (.bool ((i : Int) == ((i : Int) + 1))) (.bool false) rfl (congrArg Value.bool (by simp <;> omega)) (WCf rfl (WC.skip (QXn (hK7 _ _ (WCs (fun aB ac => WCg (WLz 3 [(7, I6 (n : Int))] (WLd rfl (QXn (ac _ _ (WCs (fun aC ad => ?_))))))))))))
 refine WC.drawC hC (blk (.slice A n c)) (by kernel_rfl) (fun aD aj ak aa => ?_)
 have al := own_fr ho aj (by simp)
 refine WDx 2 [(0, 20, .slice A n c), (1, 21, I6 (i : Int))] aa ?_
 have am : i ≤ c := by omega
 refine WD.slc (NPt hN) 2 26 43 4 A A n c 0 i i c none (some (I6 (i : Int))) 22 (by kernel_rfl) (by kernel_rfl) (by kernel_rfl) bnd.no (bnd.yes (by omega)) (by omega) am (slcAt_pre _ _ _) (by first | rfl | omega) (by first | rfl | omega) aa (WDx 2 [(3, 23, .slice A n c), (4, 24, I6 ((i : Int) + 1))] aa ?_)
 obtain ⟨ay, ae⟩ : ∃ A_, slcAt A (i + 1) c 4 = A_ := ⟨_, rfl⟩
 have an : n ≤ c := by omega
 refine WD.slc (NPt hN) 5 26 43 4 A ay n c (i + 1) n (n - (i + 1)) (c - (i + 1)) (some (I6 ((i : Int) + 1))) none 25 (by kernel_rfl) (by kernel_rfl) (by kernel_rfl) (bnd.yes (by omega)) bnd.no (by omega) an ae (by first | rfl | omega) (by first | rfl | omega) aa ?_
 obtain ⟨Y23, aE, ao, ap, aq, ar, au⟩ := del_app (P := Tryz.prog) ak 0 (t := 26) (ty := 26) (e := 43) (sz := 4) (bytes := 48) (i := i) (by kernel_rfl) rfl al (flat_oneS cellsS_one _) hi ae (by simp only [maxLen]; omega) (by omega)
 have af := aa.trans ar (fun x_ hx_ => .inl hx_)
 refine WDs 6 26 ao af (WDq 7 0 (.slice A (n - 1 : Nat) c) af (WDd (QXn (ad _ _ (WCs (fun aF ag => WCg ?_))))))
 refine WLz 4 [(30, I6 (n : Int)), (29, I6 ((n - 1 : Nat) : Int)), (27, .slice A (n - 1 : Nat) c)] ?_
 obtain ⟨az, ah⟩ : ∃ A_, slcAt A (n - 1) c 4 = A_ := ⟨_, rfl⟩
 have av : n ≤ c := by omega
 refine WL.slc 26 43 4 A az (n - 1 : Nat) c (n - 1) n (n - (n - 1)) (c - (n - 1)) (some (I6 ((n - 1 : Nat) : Int))) (some (I6 (n : Int))) 31 (by kernel_rfl) (by kernel_rfl) (bnd.yes (by omega)) (bnd.yes (by omega)) (by omega) av ah (by first | rfl | omega) (by first | rfl | omega) ?_
 obtain ⟨aG, aw, aA, ax, ab⟩ := clear_run (P := Tryz.prog) au 0 (t := 26) (ty := 0) (e := 43) (sz := 4) (bytes := 48) (nn := n) (i := n - 1) (by kernel_rfl) (by kernel_rfl) rfl ap (by omega) ah
 rw [aq] at ab
 refine WL.semN (Builtin.clear_ #[26] 0 #[.slice az (n - (n - 1)) (c - (n - 1))]) _ (by kernel_rfl) aw (WLd rfl (QXn (ag _ _ (WCs (fun aH ai => WCg (WLz 2 [(6, .slice A (n - 1 : Nat) c)] (WLd rfl (QXn (ai _ _ (WC.ret ?_))))))))))
 refine (hret _ _ _ rfl ?_).1
 clear hN hret hret' ai ag ad ac hK9 hK7 hK4 hK2
 rw [flat_take cellsS_len, flat_drop cellsS_len, ← List.flatMap_append] at ab
 exact ⟨rfl, ax.fr, ab⟩

theorem putS_ct (A : Option Addr) (n c : Nat) (xs : List Svc) (x : Svc) (out : Bool) (w : World) (ho : w.ownsRow 0 43 4 (.slice A n c) n (xs.flatMap cellsS)) (hs : sortK kS xs) (hlim : n < 2 ^ 39) : Calls Tryz.prog 79 #[.slice A n c, .agg #[U4 x.v.vip, I6 x.v.proto, I6 x.v.port, .slice x.a x.v.ends.length x.c], .func (.func 37) #[] #[], .bool out] w fun e w' => ∃ v, e = .returned (.tuple #[v, .bool (hasK kS (kV x.v) xs)]) ∧ Fr w w' (blk (.slice A n c)) ∧ w'.ownsRow 0 43 4 v (putK kS xs x out).length ((putK kS xs x out).flatMap cellsS) ∧ (∀ y ∈ blk v, y ∈ blk (.slice A n c) ∨ w.heap.size ≤ y) := by
 refine enterD (n := 44) Tryz.func79 rfl rfl (Nat.le_of_ble_eq_true rfl) ?_
 intro Q0 hN hret hret'
 have hC := Cx.start1 w (own_lt ho)
 have hle : n ≤ c := own_le ho
 have hcnt := own_count cellsS_len (by decide) ho
 have hrk := rank_le (κ := kS) (kV x.v) xs
 refine WCs (fun K1 hK2 => WCg (WLb hC (.cells #[U4 x.v.vip, I6 x.v.proto, I6 x.v.port, .slice x.a x.v.ends.length x.c] 43) 5 (fun g3 w4 hb7 hF5 hC6 => ?_)))
 have ho8 := own_fr ho hF5 (by simp)
 refine WLq 2 [(9, .bool false), (8, .slice none 0 0)] (WLd rfl (QXn (hK2 _ _ (WCs (fun K9 af => WCg (WLq 1 [(13, .slice A n c)] (WLo 43 (P0 g3 0) (.agg #[U4 x.v.vip, I6 x.v.proto, I6 x.v.port, .slice x.a x.v.ends.length x.c]) 14 (run_ld (hC6.get 0 rfl) rfl) (WLq 1 [(15, .func (.func 37) #[] #[])] (WLk (BSFS_n A n c xs x w4 (own_rd ho8 cellsS_len (by decide)) (own_count cellsS_len (by decide) ho8) (hs) (by omega)) ?_)))))))))
 rintro _ aR ⟨rfl, ao⟩
 refine ⟨_, rfl, ?_⟩
 have ac := hC6.call ao
 have aa := own_fr ho8 ao (by simp)
 refine WLz 5 [(11, .bool (hasK kS (kV x.v) xs)), (10, I6 (rankK kS (kV x.v) xs : Int))] (WLd rfl (QXn (af _ _ (WCs (fun a0 ag => WC.block (WCs (fun a1 ad => WCg (WLz 2 [(21, .bool out)] ?_))))))))
 refine WLa 21 (out) rfl (fun ab => ?_) (fun ab => ?_)
 ·
  refine WLz 3 [(19, .bool (hasK kS (kV x.v) xs))] (WLd rfl (QXn (ad _ _ (WCa 19 (hasK kS (kV x.v) xs) rfl (fun ae => ?_) (fun ae => ?_)))))
  ·
   refine WCt rfl (WCs (fun a2 ap => WCg (WLz 4 [(27, I6 (IntKind.i64.wrap ((rankK kS (kV x.v) xs : Int) + 1))), (25, I6 (rankK kS (kV x.v) xs : Int)), (24, .slice A n c)] (WLt (show (I6 (IntKind.i64.wrap ((rankK kS (kV x.v) xs : Int) + 1)) : Value) = I6 ((rankK kS (kV x.v) xs : Int) + 1) from by rw [wrap_in_i64 ((rankK kS (kV x.v) xs : Int) + 1) (by first | omega | (have q_ := (has_lt (by assumption) hs).1; omega)) (by first | omega | (have q_ := (has_lt (by assumption) hs).1; omega))]) (WLk (DelS A n c (rankK kS (kV x.v) xs) xs aR aa (by have q_ := (has_lt ae hs).1; omega) (by omega)) ?_)))))
   rintro _ a3 ⟨rfl, aB, al⟩
   have aC := ac.callF 0 rfl aB (fun x_ hx_ => .inl (by rw [blk_n _ n c (n - 1) c]; exact hx_)) (own_lt al)
   refine ⟨_, rfl, ?_⟩
   refine WLq 2 [(9, .bool true), (8, .slice A (n - 1) c)] (WLd rfl (QXn (ap _ _ (WC.ret (QXk (QXr ?_))))))
   refine (hret _ _ _ rfl ?_).1
   clear hN hret hret' ap ad ag af hK2
   have aD : putK kS xs x out = (xs.take (rankK kS (kV x.v) xs) ++ xs.drop ((rankK kS (kV x.v) xs) + 1)) := by unfold putK; rw [if_pos (show hasK kS (kS x) xs = true from ae), if_pos ab]; first | done | rfl
   have aE := own_count cellsS_len (by decide) al
   rw [aD]
   exact ⟨_, by rw [ae]; rfl, aC.fr, by rw [aE]; exact al, (fun y_ hy_ => .inl (by rw [blk_n _ n c (n - 1) c]; exact hy_))⟩
  ·
   refine WCf rfl (WCs (fun a4 aq => WCg (WLz 2 [(29, .bool out)] (WLd rfl (QXn (aq _ _ (WC.know 29 (.bool out) (.bool true) rfl (congrArg Value.bool (by exact ab)) (WCt rfl ?_))))))))
   refine WCs (fun a5 ar => WCg (WLz 3 [(9, .bool false), (8, .slice A n c)] (WLd rfl (QXn (ar _ _ (WC.ret (QXk (QXr ?_))))))))
   refine (hret _ _ _ rfl ?_).1
   clear hN hret hret' ar aq ad ag af hK2
   have aF : putK kS xs x out = xs := by unfold putK; rw [if_neg (by rw [show hasK kS (kS x) xs = false from ae]; decide), if_pos ab]; first | done | rfl
   have aG := own_count cellsS_len (by decide) aa
   rw [aF]
   exact ⟨_, by rw [ae]; rfl, ac.fr, by rw [aG]; exact aa, (fun y_ hy_ => .inl hy_)⟩
 ·
  refine WLz 3 [(19, .bool false)] (WLd rfl (QXn (ad _ _ (WCf rfl (WCs (fun a6 am => WCg (WLz 2 [(29, .bool out)] (WLd rfl (QXn (am _ _ (WC.know 29 (.bool out) (.bool false) rfl (congrArg Value.bool (by exact ab)) ?_)))))))))))
  refine WCf rfl (WCs (fun a7 an => WCg (WLz 2 [(32, .bool (hasK kS (kV x.v) xs))] (WLd rfl (QXn (an _ _ (WCa 32 (hasK kS (kV x.v) xs) rfl (fun ah => ?_) (fun ah => ?_))))))))
  ·
   refine WCt rfl (WCs (fun a8 au => WCg (WLq 2 [(35, I6 (rankK kS (kV x.v) xs : Int)), (34, .slice A n c)] (WLo 43 (P0 g3 0) (.agg #[U4 x.v.vip, I6 x.v.proto, I6 x.v.port, .slice x.a x.v.ends.length x.c]) 36 (run_ld (ac.get 0 rfl) rfl) ?_))))
   have aS := own_count cellsS_len (by decide) aa
   obtain ⟨aT, av⟩ := get_some (xs := xs) (i := (rankK kS (kV x.v) xs)) (by first | omega | (have q_ := (has_lt (by assumption) hs).1; omega))
   obtain ⟨b44, aw⟩ := own_addr (by decide) cellsS_len aa av
   refine WLi A n c 37 .i64 (rankK kS (kV x.v) xs : Int) b44 0 (rankK kS (kV x.v) xs) 4 (by kernel_rfl) aw (by first | omega | (have q_ := (has_lt (by assumption) hs).1; omega)) (by first | omega | (have q_ := (has_lt (by assumption) hs).1; omega)) ((rankK kS (kV x.v) xs) * 4) (by first | (simp; done) | omega) ?_
   obtain ⟨a9, aH, aU, ax, aI⟩ := stoE_run Tryz.prog cellsS_len ac 0 aw rfl aa (rankK kS (kV x.v) xs) 0 (x := aT) av x [U4 x.v.vip, I6 x.v.proto, I6 x.v.port, .slice x.a x.v.ends.length x.c] rfl 43 (.agg #[U4 x.v.vip, I6 x.v.proto, I6 x.v.port, .slice x.a x.v.ends.length x.c]) ((rankK kS (kV x.v) xs) * 4) rfl rfl rfl (by first | rfl | simp [Nat.add_assoc])
   refine WLU aH (WLd rfl (QXn (au _ _ (WCs (fun ba ay => WCg (WLz 3 [(9, .bool true), (8, .slice A n c)] (WLd rfl (QXn (ay _ _ (WC.ret ?_))))))))))
   refine QXk (QXr ?_)
   refine (hret _ _ _ rfl ?_).1
   clear hN hret hret' ay au an am ad ag af hK2
   have aJ : putK kS xs x out = xs.set (rankK kS (kV x.v) xs) x := by unfold putK; rw [if_pos (show hasK kS (kS x) xs = true from ah), if_neg (by rw [ab]; decide)]; first | done | rfl
   have aK := own_count cellsS_len (by decide) ax
   rw [aJ]
   exact ⟨_, by rw [ah]; rfl, aI.fr, by rw [aK]; exact ax, (fun y_ hy_ => .inl hy_)⟩
  ·
   refine WCf rfl (WC.skip (QXb (QXn (ag _ _ (WCs (fun bb az => WCg (WLq 2 [(40, I6 (rankK kS (kV x.v) xs : Int)), (39, .slice A n c)] (WLo 43 (P0 g3 0) (.agg #[U4 x.v.vip, I6 x.v.proto, I6 x.v.port, .slice x.a x.v.ends.length x.c]) 41 (run_ld (ac.get 0 rfl) rfl) ?_))))))))
   refine WL.newM ac (fun b => .slice (some ⟨b, 0, none⟩) 1 1) (.cells #[U4 x.v.vip, I6 x.v.proto, I6 x.v.port, .slice x.a x.v.ends.length x.c] 43) 42 (fun _ => by kernel_rfl) (fun aV aW aX aL aj => ?_)
   have aA := own_fr aa aL (by simp)
   have hcnt_ := own_count cellsS_len (by decide) aA
   refine WLk (InsS_ct A aV n c (rankK kS (kV x.v) xs) xs x aW aA (aj.get 1 rfl) (aj.notin 0 1 rfl rfl) (by have q_ := rank_le (κ := kS) (kS x) xs; omega) (by omega)) ?_
   rintro _ bc ⟨v_, rfl, aM, ak, ai⟩
   have aN := aj.callF 0 rfl aM ai (own_lt ak)
   obtain ⟨aY, aZ, rfl, aQ⟩ := own_form ak
   refine ⟨_, rfl, ?_⟩
   refine WLq 2 [(9, .bool false), (8, .slice aY (n + 1) aZ)] (WLd rfl (QXn (az _ _ (WC.ret ?_))))
   refine (hret _ _ _ rfl ?_).1
   clear hN hret hret' az an am ad ag af hK2
   have aO : putK kS xs x out = (xs.take (rankK kS (kV x.v) xs) ++ x :: xs.drop (rankK kS (kV x.v) xs)) := by unfold putK; rw [if_neg (by rw [show hasK kS (kS x) xs = false from ah]; decide), if_neg (by rw [ab]; decide)]; first | done | rfl
   have aP := own_count cellsS_len (by decide) ak
   rw [aO]
   exact ⟨_, by rw [ah]; rfl, aN.fr, by rw [aP]; exact ak, (fun y_ hy_ => (ai y_ hy_).imp id (fun h_ => Nat.le_trans aj.fr.size h_))⟩

theorem BSFN (A : Option Addr) (c : Nat) (xs : List SnatV) (l : SnatV) (w : World) (hr : Rd w 2 cellsN A xs) (hs : sortK kN xs) (hm : xs.length < 2 ^ 40) : Calls Tryz.prog 114 #[.slice A xs.length c, .agg #[U4 l.dip, U4 l.vip], .func (.func 81) #[] #[]] w fun e w' => e = .returned (.tuple #[I6 (rankK kN (kN l) xs : Int), .bool (hasK kN (kN l) xs)]) ∧ Fr w w' [] := by
 refine enterD (n := 49) Tryz.func114 rfl rfl (Nat.le_of_ble_eq_true rfl) ?_
 intro Q0 hN hret hret'
 have hC := Cx.start w
 refine WCs (fun K1 hK2 => WCg (WLb hC (.cells #[U4 l.dip, U4 l.vip] 79) 4 (fun g3 w4 hb7 hF5 hC6 => WLq 2 [(7, .bool false), (6, I6 0)] (WLd rfl (QXn (hK2 _ _ (WCs (fun K8 hK9 => WCg ?_))))))))
 refine WLz 3 [(8, I6 (xs.length : Int))] (WLd rfl (QXn (hK9 _ _ (WCs (fun aQ ah => WCg (WLz 3 [(10, I6 (xs.length : Int)), (9, I6 0)] (WLd rfl (QXn (ah _ _ (WCs (fun aR ai => WC.block ?_)))))))))))
 refine WC.loop (fun m_ E_ w_ => ∃ (i j : Nat), m_ = j - i ∧ E_ = [(0, .slice A xs.length c), (1, .agg #[U4 l.dip, U4 l.vip]), (2, .func (.func 81) #[] #[]), (4, P0 g3 0), (6, I6 0), (7, .bool false), (8, I6 (xs.length : Int)), (9, I6 (i : Int)), (10, I6 (j : Int))] ∧ Cx w [] w_ [(g3, .cells #[U4 l.dip, U4 l.vip] 79)] [] ∧ (i ≤ j ∧ j ≤ xs.length ∧ (∀ q y, q < i → xs[q]? = some y → lt3 (kN y) (kN l) = true) ∧ (∀ q y, j ≤ q → xs[q]? = some y → lt3 (kN y) (kN l) = false))) ⟨_, _, ⟨0, xs.length, rfl, rfl, hC6, Nat.zero_le _, Nat.le_refl _, fun q y hq => by omega, fun q y hq hy => by have := (List.getElem?_eq_some_iff.1 hy).1; omega⟩, sub_of ⟨rfl, rfl, rfl, rfl, rfl, rfl, rfl, rfl, rfl, trivial⟩⟩ (fun m17 E_ aS aT aq az => ?_)
 obtain ⟨i, j, rfl, rfl, ar, hij, hj, hlo, hhi⟩ := az
 refine WCs (fun aU aj => WCs (fun aV ak => WCg (WLz 3 [(17, .bool (decide ((i : Int) < (j : Int))))] (WLd rfl (QXn (ak _ _ (WCa 17 (decide ((i : Int) < (j : Int))) rfl (fun al => ?_) (fun al => ?_))))))))
 ·
  have aK : (i : Int) < (j : Int) := by have q_ := of_decide_eq_true al; omega
  refine WCt rfl (WC.skip (QXn (aj _ _ (WC.block (WCs (fun aW aA => WCg ?_))))))
  refine WLz 3 [(20, I6 (IntKind.i64.wrap ((i : Int) + (j : Int))))] (WLt (show (I6 (IntKind.i64.wrap ((i : Int) + (j : Int))) : Value) = I6 ((i : Int) + (j : Int)) from by rw [wrap_in_i64 ((i : Int) + (j : Int)) (by omega) (by omega)]) (WLq 1 [(21, .int .u64 (IntKind.u64.wrap ((i : Int) + (j : Int))))] (WLt (show (.int .u64 (IntKind.u64.wrap ((i : Int) + (j : Int))) : Value) = .int .u64 ((i : Int) + (j : Int)) from by rw [wrap_in_u64 ((i : Int) + (j : Int)) (by omega) (by omega)]) (WLq 1 [(22, .int .u64 (((i : Int) + (j : Int)).fdiv (2 ^ 1)))] (WLt (show (.int .u64 (((i : Int) + (j : Int)).fdiv (2 ^ 1)) : Value) = .int .u64 (((i : Int) + (j : Int)) / 2) from by rw [Int.fdiv_eq_ediv_of_nonneg ((i : Int) + (j : Int)) (by decide)]; rfl) ?_)))))
  refine WLq 1 [(23, I6 (IntKind.i64.wrap (((i : Int) + (j : Int)) / 2)))] (WLt (show (I6 (IntKind.i64.wrap (((i : Int) + (j : Int)) / 2)) : Value) = I6 (((i + j) / 2 : Nat) : Int) from by rw [wrap_in_i64 _ (by omega) (by omega)]; congr 1) (WLq 1 [(11, I6 (((i + j) / 2 : Nat) : Int))] (WLd rfl (QXn (aA _ _ (WCs (fun aX aB => WC.drawC ar [] (by kernel_rfl) (fun aL aM am ab => WDx 3 [(0, 24, .func (.func 81) #[] #[]), (1, 25, .slice A xs.length c), (2, 26, I6 (((i + j) / 2 : Nat) : Int))] ab ?_))))))))
  obtain ⟨ad, an⟩ := get_some (xs := xs) (i := ((i + j) / 2)) (by omega)
  obtain ⟨b35, o37, aC, aD⟩ := hr.at_ _ _ an
  refine WDi (NPt (NPb (NPt (NPb (NPt hN))))) 3 A xs.length c 27 .i64 (((i + j) / 2 : Nat) : Int) b35 o37 ((i + j) / 2) 2 (by kernel_rfl) (by kernel_rfl) aC (by omega) (by omega) (o37 + ((i + j) / 2) * 2) (by first | (simp; done) | omega) ab (WDm 4 79 (P0 b35 (o37 + ((i + j) / 2) * 2)) (.agg #[U4 ad.dip, U4 ad.vip]) 28 (fun _ hS_ => run_rdN (l := [U4 ad.dip, U4 ad.vip]) rfl rfl (fun j u hu => by have hq_ := Fr.cell hS_ (am.fr.cell (aD j u hu) (by simp)) (by simp); simpa [Nat.add_assoc] using hq_)) ab (WDm 5 79 (P0 g3 0) (.agg #[U4 l.dip, U4 l.vip]) 29 (fun _ hS_ => run_ld (Fr.has hS_ (am.get 0 rfl) (by simp)) rfl) ab (WDc 6 (byDip_ct ad l aL) ?_)))
  rintro _ aY ⟨rfl, au⟩
  have av := ab.trans au (by simp)
  refine ⟨_, rfl, av, ?_⟩
  have aw := am.call au
  refine WDq 7 31 (.bool (decide ((cmp3 (kN ad) (kN l)) < 0))) av (WDd (QXn (aB _ _ (WCa 31 (decide ((cmp3 (kN ad) (kN l)) < 0)) rfl (fun ao => ?_) (fun ao => ?_)))))
  ·
   have aJ : (cmp3 (kN ad) (kN l)) < 0 := by have q_ := of_decide_eq_true ao; omega
   refine WCt rfl (WCg (WLz 2 [(33, I6 (IntKind.i64.wrap ((((i + j) / 2 : Nat) : Int) + 1)))] (WLt (show (I6 (IntKind.i64.wrap ((((i + j) / 2 : Nat) : Int) + 1)) : Value) = I6 ((((i + j) / 2 : Nat) : Int) + 1) from by rw [wrap_in_i64 ((((i + j) / 2 : Nat) : Int) + 1) (by omega) (by omega)]) (WLq 1 [(9, I6 ((((i + j) / 2 : Nat) : Int) + 1))] (WLd rfl ?_)))))
   refine QXb (QXn ?_)
   have aE := aw.pick [0] [] rfl rfl
   refine fun a_ ha_ => aq _ _ _ ?_ ⟨((i + j) / 2) + 1, j, rfl, rfl, aE, by omega, by omega, bsK_lo hs an (cmp3_lt.1 aJ), hhi⟩ a_ (ha_.weaken (sub_of ⟨rfl, rfl, rfl, rfl, rfl, rfl, rfl, rfl, rfl, trivial⟩))
   omega
  ·
   have aJ : (0 : Int) ≤ (cmp3 (kN ad) (kN l)) := by have q_ := of_decide_eq_false ao; omega
   refine WCf rfl (WCg (WLz 2 [(10, I6 (((i + j) / 2 : Nat) : Int))] (WLd rfl (QXb (QXn ?_)))))
   have aF := aw.pick [0] [] rfl rfl
   refine fun a_ ha_ => aq _ _ _ ?_ ⟨i, ((i + j) / 2), rfl, rfl, aF, by omega, by omega, hlo, bsK_hi hs an (cmp3_not (by omega))⟩ a_ (ha_.weaken (sub_of ⟨rfl, rfl, rfl, rfl, rfl, rfl, rfl, rfl, rfl, trivial⟩))
   omega
 ·
  have aK : (j : Int) ≤ (i : Int) := by have q_ := of_decide_eq_false al; omega
  refine WCf rfl (WC.exit (QXe (QXe (QX.block_hit (QXn (ai _ _ ?_))))))
  refine WCs (fun aZ ae => WC.drawC ar [] (by kernel_rfl) (fun aN aO af aa => WDx 5 [(0, 35, I6 (i : Int)), (1, 36, I6 (i : Int)), (2, 37, I6 (xs.length : Int)), (3, 38, .bool (decide ((i : Int) < (xs.length : Int)))), (4, 39, .bool (decide ((i : Int) < (xs.length : Int))))] aa (WDa 39 (decide ((i : Int) < (xs.length : Int))) rfl (fun ap => ?_) (fun ap => ?_))))
  ·
   have aP : (i : Int) < (xs.length : Int) := by have q_ := of_decide_eq_true ap; omega
   refine WDx 3 [(5, 40, .func (.func 81) #[] #[]), (6, 41, .slice A xs.length c), (7, 42, I6 (i : Int))] aa ?_
   obtain ⟨ag, ax⟩ := get_some (xs := xs) (i := i) (by omega)
   obtain ⟨b55, o57, aG, aH⟩ := hr.at_ _ _ ax
   refine WDi (NPt hN) 8 A xs.length c 43 .i64 (i : Int) b55 o57 i 2 (by kernel_rfl) (by kernel_rfl) aG (by omega) (by omega) (o57 + i * 2) (by first | (simp; done) | omega) aa (WDm 9 79 (P0 b55 (o57 + i * 2)) (.agg #[U4 ag.dip, U4 ag.vip]) 44 (fun _ hS_ => run_rdN (l := [U4 ag.dip, U4 ag.vip]) rfl rfl (fun j u hu => by have hq_ := Fr.cell hS_ (af.fr.cell (aH j u hu) (by simp)) (by simp); simpa [Nat.add_assoc] using hq_)) aa (WDm 10 79 (P0 g3 0) (.agg #[U4 l.dip, U4 l.vip]) 45 (fun _ hS_ => run_ld (Fr.has hS_ (af.get 0 rfl) (by simp)) rfl) aa (WDc 11 (byDip_ct ag l aN) ?_)))
   rintro _ a0 ⟨rfl, ay⟩
   have ac := aa.trans ay (by simp)
   refine ⟨_, rfl, ac, ?_⟩
   have aI := af.call ay
   refine WDx 4 [(12, 47, .bool ((cmp3 (kN ag) (kN l)) == 0)), (13, 48, .bool ((cmp3 (kN ag) (kN l)) == 0)), (14, 6, I6 (i : Int)), (15, 7, .bool ((cmp3 (kN ag) (kN l)) == 0))] ac (WDd (QXn (ae _ _ (WC.ret ?_))))
   refine (hret _ _ _ rfl ?_).1
   clear hN hret hret' ae ak aj ai ah hK9 hK2
   have e_ : i = j := by omega
   subst e_
   have hr_ := rank_of hj hlo hhi
   exact ⟨by rw [hr_]; exact congrArg (fun b_ => Ending.returned (.tuple #[I6 (i : Int), .bool b_])) (by rw [has_at hhi hlo hs ax]), aI.fr⟩
  ·
   have aP : (xs.length : Int) ≤ (i : Int) := by have q_ := of_decide_eq_false ap; omega
   refine WDx 11 [(5, 40, undef), (6, 41, undef), (7, 42, undef), (8, 43, undef), (9, 44, undef), (10, 45, undef), (11, 46, undef), (12, 47, undef), (13, 48, .bool false), (14, 6, I6 (i : Int)), (15, 7, .bool false)] aa (WDd (QXn (ae _ _ (WC.ret ?_))))
   refine (hret _ _ _ rfl ?_).1
   clear hN hret hret' ae ak aj ai ah hK9 hK2
   have e_ : i = j := by omega
   subst e_
   have hr_ := rank_of hj hlo hhi
   exact ⟨by rw [hr_]; exact congrArg (fun b_ => Ending.returned (.tuple #[I6 (i : Int), .bool b_])) (by rw [has_end hlo (by omega)]), af.fr⟩

theorem BSFN_n (A : Option Addr) (n c : Nat) (xs : List SnatV) (l : SnatV) (w : World) (hr : Rd w 2 cellsN A xs) (hn : xs.length = n) (hs : sortK kN xs) (hm : n < 2 ^ 40) : Calls Tryz.prog 114 #[.slice A n c, .agg #[.int .u32 l.dip, .int .u32 l.vip], .func (.func 81) #[] #[]] w fun e w' => e = .returned (.tuple #[.int .i64 (rankK kN (kN l) xs : Int), .bool (hasK kN (kN l) xs)]) ∧ Fr w w' [] := by subst hn; exact BSFN A c xs l w hr hs hm
theorem InsLtN (g b c n i : Nat) (L : List Value) (x : SnatV) (w : World) (hg : w.heap[g]? = some (.cells L.toArray 79 (0, 0))) (hb : w.heap[b]? = some (.cells #[U4 x.dip, U4 x.vip] 79 (0, 0))) (hne : b ≠ g) (hi : i < n) (hnc : n ≤ c) (hL : L.length = c * 2) (hcm : c ≤ maxLen) (h1 : (L.take (n * 2)).all Value.oneCell' = true) (hlim : n < 2 ^ 40) : Calls Tryz.prog 116 #[.slice (some ⟨g, 0, none⟩) n c, I6 (i : Int), .slice (some ⟨b, 0, none⟩) 1 1] w fun e w' => ∃ v, e = .returned v ∧ Fr w w' [g] ∧ w'.ownsRow 0 79 2 v (n + 1) (L.take (i * 2) ++ [U4 x.dip, U4 x.vip] ++ (L.drop (i * 2)).take ((n - i) * 2)) ∧ (∀ y ∈ blk v, y = g ∨ w.heap.size ≤ y) := by
 refine enterD (n := 95) Tryz.func116 rfl rfl (Nat.le_of_ble_eq_true rfl) ?_
 intro Q0 hN hret hret'
 have hC := Cx.startM hg
 refine WCs (fun K1 hK2 => WCg (WLq 1 [(6, .slice none 0 0)] (WLd rfl (QXn (hK2 _ _ (WCs (fun K3 hK4 => WCg (WLq 2 [(11, I6 (i : Int)), (10, .slice (some ⟨g, 0, none⟩) n c)] ?_))))))))
 have hb5 : n ≤ c := by omega
 refine WL.slc 27 79 2 (some ⟨g, 0, none⟩) (some ⟨g, i * 2, none⟩) n c i n (n - i) (c - i) (some (I6 (i : Int))) none 12 (by kernel_rfl) (by kernel_rfl) (bnd.yes (by omega)) bnd.no (by omega) hb5 (slcAt_blk (by omega) (by simp)) (by first | rfl | omega) (by first | rfl | omega) (WLd rfl (QXn (hK4 _ _ (WCs (fun K6 hK7 => WCg (WLz 3 [(7, I6 1)] (WLd rfl (QXn (hK7 _ _ (WCs (fun K8 hK9 => ?_)))))))))))
 refine WCs (fun a5 ag => WCg (WLz 2 [(16, .bool false)] (WLd rfl (QXn (ag _ _ (WCf rfl (WC.skip (QXn (hK9 _ _ (WCs (fun a6 ah => WCg ?_)))))))))))
 refine WLz 3 [(8, I6 (n : Int))] (WLd rfl (QXn (ah _ _ (WCs (fun a7 ai => WCs (fun a8 aj => WCg (WLz 3 [(22, .bool ((i : Int) == (n : Int)))] (WLd rfl (QXn (aj _ _ (WC.know 22 (.bool ((i : Int) == (n : Int))) (.bool false) rfl (congrArg Value.bool (by simp; omega)) ?_)))))))))))
 refine WCf rfl (WC.skip (QXn (ai _ _ (WCs (fun a9 ak => WCs (fun ba al => WCg (WLz 3 [(28, I6 (IntKind.i64.wrap ((n : Int) + 1)))] (WLt (show (I6 (IntKind.i64.wrap ((n : Int) + 1)) : Value) = I6 ((n : Int) + 1) from by rw [wrap_in_i64 ((n : Int) + 1) (by omega) (by omega)]) ?_))))))))
 refine WLz 3 [(31, .bool (decide (((n : Int) + 1) > (c : Int))))] (WLd rfl (QXn (al _ _ (WCa 31 (decide (((n : Int) + 1) > (c : Int))) rfl (fun ae => ?_) (fun ae => ?_)))))
 ·
  have aX : (c : Int) < ((n : Int) + 1) := by have q_ := of_decide_eq_true ae; omega
  refine WCt rfl (WCs (fun bb am => WCg (WLq 2 [(33, I6 (i : Int)), (32, .slice (some ⟨g, 0, none⟩) n c)] ?_)))
  have ay : i ≤ c := by omega
  refine WL.slc 27 79 2 (some ⟨g, 0, none⟩) (some ⟨g, 0, none⟩) n c 0 i i c none (some (I6 (i : Int))) 34 (by kernel_rfl) (by kernel_rfl) bnd.no (bnd.yes (by omega)) (by omega) ay (slcAt_pre _ _ _) (by first | rfl | omega) (by first | rfl | omega) (WLz 3 [(37, I6 (IntKind.i64.wrap ((n : Int) + 1)))] (WLt (show (I6 (IntKind.i64.wrap ((n : Int) + 1)) : Value) = I6 ((n : Int) + 1) from by rw [wrap_in_i64 ((n : Int) + 1) (by omega) (by omega)]) (WLz 2 [(39, I6 (IntKind.i64.wrap (((n : Int) + 1) - (i : Int))))] (WLt (show (I6 (IntKind.i64.wrap (((n : Int) + 1) - (i : Int))) : Value) = I6 (((n : Int) + 1) - (i : Int)) from by rw [wrap_in_i64 (((n : Int) + 1) - (i : Int)) (by omega) (by omega)]) ?_))))
  obtain ⟨ad, aa, bc, az, aW, aY, aZ, an, af⟩ := appZ_run Tryz.prog hC 27 3 27 79 2 8 i c (n + 1 - i) (z := (.agg #[U4 0, U4 0])) (xs := (L.drop 0).take (i * 2)) rfl rfl (by kernel_rfl) (by decide) (by simp; omega) (srcOk.part (hC.get 0 rfl)) (by omega) (by omega) (by omega) (((n : Int) + 1) - (i : Int)) (by omega)
  have hL2l : ((L.drop 0).take (i * 2) ++ (Builtin.zeroCells (.agg #[U4 0, U4 0] : Value).cells (n + 1 - i)).toList ++ (Builtin.zeroCells (.agg #[U4 0, U4 0] : Value).cells (aa - (i + (n + 1 - i)))).toList).length = aa * 2 := by simp [size_zeroCells, Value.cells]; omega
  have hL2t : ((L.drop 0).take (i * 2) ++ (Builtin.zeroCells (.agg #[U4 0, U4 0] : Value).cells (n + 1 - i)).toList ++ (Builtin.zeroCells (.agg #[U4 0, U4 0] : Value).cells (aa - (i + (n + 1 - i)))).toList).take (i * 2) = L.take (i * 2) := by rw [List.append_assoc, List.take_append_of_le_length (by simp; omega)]; simp [List.take_take]
  generalize hL2 : ((L.drop 0).take (i * 2) ++ (Builtin.zeroCells (.agg #[U4 0, U4 0] : Value).cells (n + 1 - i)).toList ++ (Builtin.zeroCells (.agg #[U4 0, U4 0] : Value).cells (aa - (i + (n + 1 - i)))).toList) = L2 at af hL2l hL2t
  refine WL.sem (Builtin.append_ #[27, 3] 27 #[.slice (some ⟨g, 0, none⟩) i c, I6 (((n : Int) + 1) - (i : Int))]) 40 (.slice (some ⟨ad, 0, none⟩) (i + (n + 1 - i)) aa) (by kernel_rfl) az (WLq 1 [(9, .slice (some ⟨ad, 0, none⟩) (i + (n + 1 - i)) aa)] (WLd rfl (QXn (am _ _ (WCs (fun bd ao => WCg (WLq 2 [(42, I6 (i : Int)), (41, .slice (some ⟨ad, 0, none⟩) (i + (n + 1 - i)) aa)] ?_)))))))
  have aA : i + (n + 1 - i) ≤ aa := by omega
  refine WL.slc 27 79 2 (some ⟨ad, 0, none⟩) (some ⟨ad, i * 2, none⟩) (i + (n + 1 - i)) aa i (i + (n + 1 - i)) ((i + (n + 1 - i)) - i) (aa - i) (some (I6 (i : Int))) none 43 (by kernel_rfl) (by kernel_rfl) (bnd.yes (by omega)) bnd.no (by omega) aA (slcAt_blk (by omega) (by simp)) (by first | rfl | omega) (by first | rfl | omega) (WLq 1 [(44, .slice (some ⟨b, 0, none⟩) 1 1)] ?_)
  obtain ⟨be, aB, a0, aC⟩ := copy_run Tryz.prog af 1 27 27 3 79 2 ad (i * 2) ((i + (n + 1 - i)) - i) (aa - i) 1 1 1 (some ⟨b, 0, none⟩) [U4 x.dip, U4 x.vip] rfl rfl (by show min _ _ = _; omega) rfl (srcOk.blk 1 (af.fr.has hb (by simpa using hne))) (by simp; omega) rfl
  refine WLS 45 aB (WLd rfl (QXn (ao _ _ (WCs (fun bf ap => WC.drawC aC [ad] (by kernel_rfl) (fun bg a1 aq ab => WDx 4 [(0, 46, .slice (some ⟨ad, 0, none⟩) (i + (n + 1 - i)) aa), (1, 47, I6 (i : Int)), (2, 48, I6 1), (3, 49, I6 (IntKind.i64.wrap ((i : Int) + 1)))] ab (WD.recast (show (I6 (IntKind.i64.wrap ((i : Int) + 1)) : Value) = I6 ((i : Int) + 1) from by rw [wrap_in_i64 ((i : Int) + 1) (by omega) (by omega)]) ?_)))))))
  have aD : i + (n + 1 - i) ≤ aa := by omega
  refine WD.slc (NPt (NPt hN)) 4 27 79 2 (some ⟨ad, 0, none⟩) (some ⟨ad, (i + 1) * 2, none⟩) (i + (n + 1 - i)) aa (i + 1) (i + (n + 1 - i)) ((i + (n + 1 - i)) - (i + 1)) (aa - (i + 1)) (some (I6 ((i : Int) + 1))) none 50 (by kernel_rfl) (by kernel_rfl) (by kernel_rfl) (bnd.yes (by omega)) bnd.no (by omega) aD (slcAt_blk (by omega) (by simp)) (by first | rfl | omega) (by first | rfl | omega) ab (WDx 2 [(5, 51, .slice (some ⟨g, 0, none⟩) n c), (6, 52, I6 (i : Int))] ab ?_)
  have aE : n ≤ c := by omega
  refine WD.slc (NPt (NPt hN)) 7 27 79 2 (some ⟨g, 0, none⟩) (some ⟨g, i * 2, none⟩) n c i n (n - i) (c - i) (some (I6 (i : Int))) none 53 (by kernel_rfl) (by kernel_rfl) (by kernel_rfl) (bnd.yes (by omega)) bnd.no (by omega) aE (slcAt_blk (by omega) (by simp)) (by first | rfl | omega) (by first | rfl | omega) ab ?_
  obtain ⟨bh, aF, aG, ar⟩ := copy_run Tryz.prog aq 1 27 27 3 79 2 ad ((i + 1) * 2) ((i + (n + 1 - i)) - (i + 1)) (aa - (i + 1)) (n - i) (c - i) (n - i) (some ⟨g, i * 2, none⟩) ((L.drop (i * 2)).take ((n - i) * 2)) rfl rfl (by show min _ _ = _; omega) (by simp; omega) (srcOk.part (aq.get 0 rfl)) (by simp; omega) (all_part h1 (by omega))
  have aH := ab.trans aG (by simp)
  refine WDs 8 54 aF aH (WDd (QXn (ap _ _ (WCs (fun bi au => WCg (WLz 2 [(6, .slice (some ⟨ad, 0, none⟩) (i + (n + 1 - i)) aa)] (WLd rfl (QXn (au _ _ ?_)))))))))
  refine WC.ret (QXr ?_)
  refine (hret _ _ _ rfl ?_).1
  clear hN hret hret' au ap ao am al ak aj ai ah ag hK9 hK7 hK4 hK2
  refine ⟨_, rfl, ar.fr, ?_, by intro y hy; simp [shut, blk, Value.ownBlock] at hy; omega⟩
  rw [show i + (n + 1 - i) = n + 1 from by omega]
  exact own_of_blk (Nat.zero_le _) (ar.get 1 rfl) (by omega) an (by simp; omega) ((insAz 2 L2 [U4 x.dip, U4 x.vip] ((L.drop (i * 2)).take ((n - i) * 2)) i n rfl (by simp; omega) (by omega) hi).trans (by rw [hL2t]))
 ·
  have aX : ((n : Int) + 1) ≤ (c : Int) := by have q_ := of_decide_eq_false ae; omega
  refine WCf rfl (WC.skip (QXn (ak _ _ (WCs (fun bj aI => WCg (WLz 4 [(59, I6 (IntKind.i64.wrap ((n : Int) + 1))), (56, .slice (some ⟨g, 0, none⟩) n c)] (WLt (show (I6 (IntKind.i64.wrap ((n : Int) + 1)) : Value) = I6 ((n : Int) + 1) from by rw [wrap_in_i64 ((n : Int) + 1) (by omega) (by omega)]) ?_)))))))
  have aJ : n + 1 ≤ c := by omega
  refine WL.slc 27 79 2 (some ⟨g, 0, none⟩) (some ⟨g, 0, none⟩) n c 0 (n + 1) (n + 1) c none (some (I6 ((n : Int) + 1))) 60 (by kernel_rfl) (by kernel_rfl) bnd.no (bnd.yes (by omega)) (by omega) aJ (slcAt_pre _ _ _) (by first | rfl | omega) (by first | rfl | omega) (WLq 1 [(0, .slice (some ⟨g, 0, none⟩) (n + 1) c)] (WLd rfl (QXn (aI _ _ (WCs (fun bk a2 => WCs (fun bl aK => WCg (WLz 5 [(65, I6 (IntKind.i64.wrap ((i : Int) + 1))), (62, .slice (some ⟨g, 0, none⟩) (n + 1) c), (61, .slice (some ⟨b, 0, none⟩) 1 1)] ?_))))))))
  refine WLt (show (I6 (IntKind.i64.wrap ((i : Int) + 1)) : Value) = I6 ((i : Int) + 1) from by rw [wrap_in_i64 ((i : Int) + 1) (by omega) (by omega)]) ?_
  have aL : n + 1 ≤ c := by omega
  refine WL.slc 27 79 2 (some ⟨g, 0, none⟩) (some ⟨g, (i + 1) * 2, none⟩) (n + 1) c (i + 1) (n + 1) ((n + 1) - (i + 1)) (c - (i + 1)) (some (I6 ((i : Int) + 1))) none 66 (by kernel_rfl) (by kernel_rfl) (bnd.yes (by omega)) bnd.no (by omega) aL (slcAt_blk (by omega) (by simp)) (by first | rfl | omega) (by first | rfl | omega) (WL.ext 145 #[.slice (some ⟨b, 0, none⟩) 1 1, .slice (some ⟨g, (i + 1) * 2, none⟩) ((n + 1) - (i + 1)) (c - (i + 1))] 67 (.bool false) (by kernel_rfl) (run_overlaps (fn := Tryz.f145) (tS := 27) (tR := 4) (e := 79) (sz := 2) rfl (by kernel_rfl) (by kernel_rfl) (by kernel_rfl) (by kernel_rfl) (by kernel_rfl) (hC.fr.has hb (by simpa using hne)) (hC.get 0 rfl) hne (by rw [List.size_toArray]; omega)) (WLq 1 [(68, .bool true)] (WLd rfl (QXn (aK _ _ (WCt rfl (WCs (fun bm aM => WC.drawC hC [g] (by kernel_rfl) (fun bn a3 av ac => ?_)))))))))
  refine WDx 4 [(0, 69, .slice (some ⟨g, 0, none⟩) (n + 1) c), (1, 70, I6 (i : Int)), (2, 71, I6 1), (3, 72, I6 (IntKind.i64.wrap ((i : Int) + 1)))] ac (WD.recast (show (I6 (IntKind.i64.wrap ((i : Int) + 1)) : Value) = I6 ((i : Int) + 1) from by rw [wrap_in_i64 ((i : Int) + 1) (by omega) (by omega)]) ?_)
  have aN : n + 1 ≤ c := by omega
  refine WD.slc (NPt (NPt hN)) 4 27 79 2 (some ⟨g, 0, none⟩) (some ⟨g, (i + 1) * 2, none⟩) (n + 1) c (i + 1) (n + 1) ((n + 1) - (i + 1)) (c - (i + 1)) (some (I6 ((i : Int) + 1))) none 73 (by kernel_rfl) (by kernel_rfl) (by kernel_rfl) (bnd.yes (by omega)) bnd.no (by omega) aN (slcAt_blk (by omega) (by simp)) (by first | rfl | omega) (by first | rfl | omega) ac (WDx 2 [(5, 74, .slice (some ⟨g, 0, none⟩) (n + 1) c), (6, 75, I6 (i : Int))] ac ?_)
  have aO : n + 1 ≤ c := by omega
  refine WD.slc (NPt (NPt hN)) 7 27 79 2 (some ⟨g, 0, none⟩) (some ⟨g, i * 2, none⟩) (n + 1) c i (n + 1) ((n + 1) - i) (c - i) (some (I6 (i : Int))) none 76 (by kernel_rfl) (by kernel_rfl) (by kernel_rfl) (bnd.yes (by omega)) bnd.no (by omega) aO (slcAt_blk (by omega) (by simp)) (by first | rfl | omega) (by first | rfl | omega) ac ?_
  obtain ⟨bo, aP, aQ, aw⟩ := copy_run Tryz.prog av 0 27 27 3 79 2 g ((i + 1) * 2) ((n + 1) - (i + 1)) (c - (i + 1)) ((n + 1) - i) (c - i) (n - i) (some ⟨g, i * 2, none⟩) ((L.drop (i * 2)).take ((n - i) * 2)) rfl rfl (by show min _ _ = _; omega) (by simp; omega) (srcOk.part (av.get 0 rfl)) (by simp; omega) (all_part h1 (by omega))
  have aR := ac.trans aQ (by simp)
  refine WDs 8 77 aP aR (WDd (QXn (aM _ _ (WCs (fun bp aS => WCg (WLq 2 [(79, I6 (i : Int)), (78, .slice (some ⟨g, 0, none⟩) (n + 1) c)] ?_))))))
  have aT : n + 1 ≤ c := by omega
  refine WL.slc 27 79 2 (some ⟨g, 0, none⟩) (some ⟨g, i * 2, none⟩) (n + 1) c i (n + 1) ((n + 1) - i) (c - i) (some (I6 (i : Int))) none 80 (by kernel_rfl) (by kernel_rfl) (bnd.yes (by omega)) bnd.no (by omega) aT (slcAt_blk (by omega) (by simp)) (by first | rfl | omega) (by first | rfl | omega) (WLq 1 [(81, .slice (some ⟨b, 0, none⟩) 1 1)] ?_)
  obtain ⟨bq, aU, a4, ax⟩ := copy_run Tryz.prog aw 0 27 27 3 79 2 g (i * 2) ((n + 1) - i) (c - i) 1 1 1 (some ⟨b, 0, none⟩) [U4 x.dip, U4 x.vip] rfl rfl (by show min _ _ = _; omega) rfl (srcOk.blk 1 (aw.fr.has hb (by simpa using hne))) (by simp; omega) rfl
  refine WLS 82 aU (WLd rfl (QXn (aS _ _ (WCs (fun br aV => WCg (WLz 2 [(6, .slice (some ⟨g, 0, none⟩) (n + 1) c)] (WLd rfl (QXn (aV _ _ (WC.ret ?_))))))))))
  refine QXr ?_
  refine (hret _ _ _ rfl ?_).1
  exact ⟨_, rfl, ax.fr, own_of_blk (Nat.zero_le _) (ax.get 0 rfl) (by omega) hcm (by simp; omega) (insBz 2 L [U4 x.dip, U4 x.vip] ((L.drop (i * 2)).take ((n - i) * 2)) i n rfl (by simp; omega) (by omega) hi), by intro y hy; simp [shut, blk, Value.ownBlock] at hy; omega⟩

theorem InsEqN (A : Option Addr) (b n c : Nat) (xs : List SnatV) (x : SnatV) (w : World) (ho : w.ownsRow 0 79 2 (.slice A n c) n (xs.flatMap cellsN)) (hb : w.heap[b]? = some (.cells #[U4 x.dip, U4 x.vip] 79 (0, 0))) (hne : b ∉ blk (.slice A n c)) (hlim : n < 2 ^ 40) : Calls Tryz.prog 116 #[.slice A n c, I6 (n : Int), .slice (some ⟨b, 0, none⟩) 1 1] w fun e w' => ∃ v, e = .returned v ∧ Fr w w' (blk (.slice A n c)) ∧ w'.ownsRow 0 79 2 v (n + 1) ((xs ++ [x]).flatMap cellsN) ∧ (∀ y ∈ blk v, y ∈ blk (.slice A n c) ∨ w.heap.size ≤ y) := by
 refine enterD (n := 95) Tryz.func116 rfl rfl (Nat.le_of_ble_eq_true rfl) ?_
 intro Q0 hN hret hret'
 have hle : n ≤ c := by obtain ⟨A_, c_, h1_, h2_⟩ := own_form ho; simp at h1_; omega
 have hC := Cx.start1 w (own_lt ho)
 refine WCs (fun K1 hK2 => WCg (WLq 1 [(6, .slice none 0 0)] (WLd rfl (QXn (hK2 _ _ (WCs (fun K3 hK4 => WCg (WLq 2 [(11, I6 (n : Int)), (10, .slice A n c)] ?_))))))))
 obtain ⟨A5, hA6⟩ : ∃ A_, slcAt A n c 2 = A_ := ⟨_, rfl⟩
 have hle_ := own_le ho
 have hb7 : n ≤ c := by omega
 refine WL.slc 27 79 2 A A5 n c n n (n - n) (c - n) (some (I6 (n : Int))) none 12 (by kernel_rfl) (by kernel_rfl) (bnd.yes (by omega)) bnd.no (by omega) hb7 hA6 (by first | rfl | omega) (by first | rfl | omega) (WLd rfl (QXn (hK4 _ _ (WCs (fun K8 hK9 => WCg (WLz 3 [(7, I6 1)] (WLd rfl (QXn (hK9 _ _ (WCs (fun aq ac => ?_)))))))))))
 refine WCs (fun ar ad => WCg (WLz 2 [(16, .bool false)] (WLd rfl (QXn (ad _ _ (WCf rfl (WC.skip (QXn (ac _ _ (WCs (fun au ae => WCg ?_)))))))))))
 refine WLz 3 [(8, I6 (n : Int))] (WLd rfl (QXn (ae _ _ (WCs (fun av ao => WCs (fun aw af => WCg (WLz 3 [(22, .bool ((n : Int) == (n : Int)))] (WLd rfl (QXn (af _ _ (WC.know 22 (.bool ((n : Int) == (n : Int))) (.bool true) rfl (congrArg Value.bool (by simp)) ?_)))))))))))
 refine WCt rfl (WCs (fun ax ag => WCg (WLq 2 [(24, .slice (some ⟨b, 0, none⟩) 1 1), (23, .slice A n c)] ?_)))
 obtain ⟨ay, az, ah, ai, ap, aj, ak, aa⟩ := app_run Tryz.prog hC 0 (v := .slice A n c) rfl 27 27 79 2 8 n 1 1 (some ⟨b, 0, none⟩) rfl ho [U4 x.dip, U4 x.vip] rfl (srcOk.blk 1 (hC.fr.has hb hne)) rfl (by simp only [maxLen]; omega) (by omega)
 have ab := own_snoc (enc := cellsN) (ys := xs) x ai
 obtain ⟨al, am, rfl, an⟩ := own_form ab
 refine WLS 25 ah (WLq 1 [(6, .slice al (n + 1) am)] (WLd rfl (QXn (ag _ _ (WC.ret (QXr ?_))))))
 refine (hret _ _ _ rfl ?_).1
 exact ⟨_, rfl, aj.fr, by simpa [shut] using ab, aa⟩

theorem InsN_ct (A : Option Addr) (b n c i : Nat) (xs : List SnatV) (x : SnatV) (w : World) (ho : w.ownsRow 0 79 2 (.slice A n c) n (xs.flatMap cellsN)) (hb : w.heap[b]? = some (.cells #[.int .u32 x.dip, .int .u32 x.vip] 79 (0, 0))) (hne : b ∉ blk (.slice A n c)) (hi : i ≤ n) (hlim : n < 2 ^ 40) : Calls Tryz.prog 116 #[.slice A n c, .int .i64 (i : Int), .slice (some ⟨b, 0, none⟩) 1 1] w fun e w' => ∃ v, e = .returned v ∧ Fr w w' (blk (.slice A n c)) ∧ w'.ownsRow 0 79 2 v (n + 1) ((xs.take i ++ x :: xs.drop i).flatMap cellsN) ∧ (∀ y ∈ blk v, y ∈ blk (.slice A n c) ∨ w.heap.size ≤ y) := by
  have hcount := own_count cellsN_len (by decide) ho
  by_cases e : i = n
  · subst e
    refine (InsEqN A b i c xs x w ho hb hne hlim).mono fun e w' h => ?_
    rwa [← hcount, List.take_length, List.drop_length, hcount]
  · have hlt : i < n := by omega
    obtain ⟨g, cur, rfl, hg, hh, hnc, hcm, hsz, htk⟩ := own_blkd ho (by omega)
    have hbg : b ≠ g := by simpa [blk, Value.ownBlock] using hne
    have h1 : (cur.toList.take (n * 2)).all Value.oneCell' = true := by rw [htk]; exact flat_oneS cellsN_one _
    refine (InsLtN g b c n i cur.toList x w (by simpa using hh) hb hbg hlt hnc (by simpa using hsz) hcm h1 hlim).mono fun e w' h => ?_
    obtain ⟨v, he, hf, hown, hsub⟩ := h
    refine ⟨v, he, by simpa [blk, Value.ownBlock] using hf, ?_, by simpa [blk, Value.ownBlock] using hsub⟩
    have e1 : cur.toList.take (i * 2) = (xs.take i).flatMap cellsN := by rw [← flat_take cellsN_len, ← htk, List.take_take, Nat.min_eq_left (by omega)]
    have e2 : (cur.toList.drop (i * 2)).take ((n - i) * 2) = (xs.drop i).flatMap cellsN := by rw [← flat_drop cellsN_len, ← htk, List.drop_take]; congr 1; omega
    rw [e1, e2] at hown
    simpa [cellsN] using hown
theorem DelN (A : Option Addr) (n c i : Nat) (xs : List SnatV) (w : World) (ho : w.ownsRow 0 79 2 (.slice A n c) n (xs.flatMap cellsN)) (hi : i < n) (hlim : n < 2 ^ 40) : Calls Tryz.prog 115 #[.slice A n c, I6 (i : Int), I6 ((i : Int) + 1)] w fun e w' => e = .returned (.slice A (n - 1) c) ∧ Fr w w' (blk (.slice A n c)) ∧ w'.ownsRow 0 79 2 (.slice A (n - 1) c) (n - 1) ((xs.take i ++ xs.drop (i + 1)).flatMap cellsN) := by
 refine enterD (n := 33) Tryz.func115 rfl rfl (Nat.le_of_ble_eq_true rfl) ?_
 intro Q0 hN hret hret'
 have hC := Cx.start1 w (own_lt ho)
 have hle : n ≤ c := own_le ho
 have hcnt := own_count cellsN_len (by decide) ho
 refine WCs (fun K1 hK2 => WCg (WLq 1 [(6, .slice none 0 0)] (WLd rfl (QXn (hK2 _ _ (WCs (fun K3 hK4 => WCg (WLz 5 [(12, I6 (n : Int)), (10, I6 ((i : Int) + 1)), (9, I6 (i : Int)), (8, .slice A n c)] ?_))))))))
 have hr5 := fun w_ => run_slc3 (P := Tryz.prog) (w := w_) (t := 27) (e := 79) (sz := 2) (A := A) (nn := n) (c := c) (l := i) (h := i + 1) (m := n) (kl := .i64) (kh := .i64) (km := .i64) (il := (i : Int)) (ih := (i : Int) + 1) (im := (n : Int)) (by kernel_rfl) rfl (by omega) rfl (by omega) (by omega) (by omega)
 refine WL.sem (Instr.sliceAt 27 (.slice A n c) (some (I6 (i : Int))) (some (I6 ((i : Int) + 1))) (some (I6 (n : Int)))) 13 (.slice (slcAt A i n 2) (i + 1 - i) (n - i)) (by kernel_rfl) (hr5 _) (WLd rfl (QXn (hK4 _ _ (WCs (fun K6 hK7 => WCs (fun K8 hK9 => WCg (WLz 3 [(16, .bool ((i : Int) == ((i : Int) + 1)))] (WLd rfl (QXn (hK9 _ _ ?_))))))))))
 refine WC.know 16 (.bool ((i : Int) == ((i : Int) + 1))) (.bool false) rfl (congrArg Value.bool (by simp <;> omega)) (WCf rfl (WC.skip (QXn (hK7 _ _ (WCs (fun aB ac => WCg (WLz 3 [(7, I6 (n : Int))] (WLd rfl (QXn (ac _ _ (WCs (fun aC ad => ?_))))))))))))
 refine WC.drawC hC (blk (.slice A n c)) (by kernel_rfl) (fun aD aj ak aa => ?_)
 have al := own_fr ho aj (by simp)
 refine WDx 2 [(0, 20, .slice A n c), (1, 21, I6 (i : Int))] aa ?_
 have am : i ≤ c := by omega
 refine WD.slc (NPt hN) 2 27 79 2 A A n c 0 i i c none (some (I6 (i : Int))) 22 (by kernel_rfl) (by kernel_rfl) (by kernel_rfl) bnd.no (bnd.yes (by omega)) (by omega) am (slcAt_pre _ _ _) (by first | rfl | omega) (by first | rfl | omega) aa (WDx 2 [(3, 23, .slice A n c), (4, 24, I6 ((i : Int) + 1))] aa ?_)
 obtain ⟨ay, ae⟩ : ∃ A_, slcAt A (i + 1) c 2 = A_ := ⟨_, rfl⟩
 have an : n ≤ c := by omega
 refine WD.slc (NPt hN) 5 27 79 2 A ay n c (i + 1) n (n - (i + 1)) (c - (i + 1)) (some (I6 ((i : Int) + 1))) none 25 (by kernel_rfl) (by kernel_rfl) (by kernel_rfl) (bnd.yes (by omega)) bnd.no (by omega) an ae (by first | rfl | omega) (by first | rfl | omega) aa ?_
 obtain ⟨Y23, aE, ao, ap, aq, ar, au⟩ := del_app (P := Tryz.prog) ak 0 (t := 27) (ty := 27) (e := 79) (sz := 2) (bytes := 8) (i := i) (by kernel_rfl) rfl al (flat_oneS cellsN_one _) hi ae (by simp only [maxLen]; omega) (by omega)
 have af := aa.trans ar (fun x_ hx_ => .inl hx_)
 refine WDs 6 26 ao af (WDq 7 0 (.slice A (n - 1 : Nat) c) af (WDd (QXn (ad _ _ (WCs (fun aF ag => WCg ?_))))))
 refine WLz 4 [(30, I6 (n : Int)), (29, I6 ((n - 1 : Nat) : Int)), (27, .slice A (n - 1 : Nat) c)] ?_
 obtain ⟨az, ah⟩ : ∃ A_, slcAt A (n - 1) c 2 = A_ := ⟨_, rfl⟩
 have av : n ≤ c := by omega
 refine WL.slc 27 79 2 A az (n - 1 : Nat) c (n - 1) n (n - (n - 1)) (c - (n - 1)) (some (I6 ((n - 1 : Nat) : Int))) (some (I6 (n : Int))) 31 (by kernel_rfl) (by kernel_rfl) (bnd.yes (by omega)) (bnd.yes (by omega)) (by omega) av ah (by first | rfl | omega) (by first | rfl | omega) ?_
 obtain ⟨aG, aw, aA, ax, ab⟩ := clear_run (P := Tryz.prog) au 0 (t := 27) (ty := 0) (e := 79) (sz := 2) (bytes := 8) (nn := n) (i := n - 1) (by kernel_rfl) (by kernel_rfl) rfl ap (by omega) ah
 rw [aq] at ab
 refine WL.semN (Builtin.clear_ #[27] 0 #[.slice az (n - (n - 1)) (c - (n - 1))]) _ (by kernel_rfl) aw (WLd rfl (QXn (ag _ _ (WCs (fun aH ai => WCg (WLz 2 [(6, .slice A (n - 1 : Nat) c)] (WLd rfl (QXn (ai _ _ (WC.ret ?_))))))))))
 refine (hret _ _ _ rfl ?_).1
 clear hN hret hret' ai ag ad ac hK9 hK7 hK4 hK2
 rw [flat_take cellsN_len, flat_drop cellsN_len, ← List.flatMap_append] at ab
 exact ⟨rfl, ax.fr, ab⟩

theorem putN_ct (A : Option Addr) (n c : Nat) (xs : List SnatV) (x : SnatV) (out : Bool) (w : World) (ho : w.ownsRow 0 79 2 (.slice A n c) n (xs.flatMap cellsN)) (hs : sortK kN xs) (hlim : n < 2 ^ 39) : Calls Tryz.prog 80 #[.slice A n c, .agg #[U4 x.dip, U4 x.vip], .func (.func 81) #[] #[], .bool out] w fun e w' => ∃ v, e = .returned (.tuple #[v, .bool (hasK kN (kN x) xs)]) ∧ Fr w w' (blk (.slice A n c)) ∧ w'.ownsRow 0 79 2 v (putK kN xs x out).length ((putK kN xs x out).flatMap cellsN) ∧ (∀ y ∈ blk v, y ∈ blk (.slice A n c) ∨ w.heap.size ≤ y) := by
 refine enterD (n := 44) Tryz.func80 rfl rfl (Nat.le_of_ble_eq_true rfl) ?_
 intro Q0 hN hret hret'
 have hC := Cx.start1 w (own_lt ho)
 have hle : n ≤ c := own_le ho
 have hcnt := own_count cellsN_len (by decide) ho
 have hrk := rank_le (κ := kN) (kN x) xs
 refine WCs (fun K1 hK2 => WCg (WLb hC (.cells #[U4 x.dip, U4 x.vip] 79) 5 (fun g3 w4 hb7 hF5 hC6 => ?_)))
 have ho8 := own_fr ho hF5 (by simp)
 refine WLq 2 [(9, .bool false), (8, .slice none 0 0)] (WLd rfl (QXn (hK2 _ _ (WCs (fun K9 af => WCg (WLq 1 [(13, .slice A n c)] (WLo 79 (P0 g3 0) (.agg #[U4 x.dip, U4 x.vip]) 14 (run_ld (hC6.get 0 rfl) rfl) (WLq 1 [(15, .func (.func 81) #[] #[])] (WLk (BSFN_n A n c xs x w4 (own_rd ho8 cellsN_len (by decide)) (own_count cellsN_len (by decide) ho8) (hs) (by omega)) ?_)))))))))
 rintro _ aR ⟨rfl, ao⟩
 refine ⟨_, rfl, ?_⟩
 have ac := hC6.call ao
 have aa := own_fr ho8 ao (by simp)
 refine WLz 5 [(11, .bool (hasK kN (kN x) xs)), (10, I6 (rankK kN (kN x) xs : Int))] (WLd rfl (QXn (af _ _ (WCs (fun a0 ag => WC.block (WCs (fun a1 ad => WCg (WLz 2 [(21, .bool out)] ?_))))))))
 refine WLa 21 (out) rfl (fun ab => ?_) (fun ab => ?_)
 ·
  refine WLz 3 [(19, .bool (hasK kN (kN x) xs))] (WLd rfl (QXn (ad _ _ (WCa 19 (hasK kN (kN x) xs) rfl (fun ae => ?_) (fun ae => ?_)))))
  ·
   refine WCt rfl (WCs (fun a2 ap => WCg (WLz 4 [(27, I6 (IntKind.i64.wrap ((rankK kN (kN x) xs : Int) + 1))), (25, I6 (rankK kN (kN x) xs : Int)), (24, .slice A n c)] (WLt (show (I6 (IntKind.i64.wrap ((rankK kN (kN x) xs : Int) + 1)) : Value) = I6 ((rankK kN (kN x) xs : Int) + 1) from by rw [wrap_in_i64 ((rankK kN (kN x) xs : Int) + 1) (by first | omega | (have q_ := (has_lt (by assumption) hs).1; omega)) (by first | omega | (have q_ := (has_lt (by assumption) hs).1; omega))]) (WLk (DelN A n c (rankK kN (kN x) xs) xs aR aa (by have q_ := (has_lt ae hs).1; omega) (by omega)) ?_)))))
   rintro _ a3 ⟨rfl, aB, al⟩
   have aC := ac.callF 0 rfl aB (fun x_ hx_ => .inl (by rw [blk_n _ n c (n - 1) c]; exact hx_)) (own_lt al)
   refine ⟨_, rfl, ?_⟩
   refine WLq 2 [(9, .bool true), (8, .slice A (n - 1) c)] (WLd rfl (QXn (ap _ _ (WC.ret (QXk (QXr ?_))))))
   refine (hret _ _ _ rfl ?_).1
   clear hN hret hret' ap ad ag af hK2
   have aD : putK kN xs x out = (xs.take (rankK kN (kN x) xs) ++ xs.drop ((rankK kN (kN x) xs) + 1)) := by unfold putK; rw [if_pos (show hasK kN (kN x) xs = true from ae), if_pos ab]; first | done | rfl
   have aE := own_count cellsN_len (by decide) al
   rw [aD]
   exact ⟨_, by rw [ae]; rfl, aC.fr, by rw [aE]; exact al, (fun y_ hy_ => .inl (by rw [blk_n _ n c (n - 1) c]; exact hy_))⟩
  ·
   refine WCf rfl (WCs (fun a4 aq => WCg (WLz 2 [(29, .bool out)] (WLd rfl (QXn (aq _ _ (WC.know 29 (.bool out) (.bool true) rfl (congrArg Value.bool (by exact ab)) (WCt rfl ?_))))))))
   refine WCs (fun a5 ar => WCg (WLz 3 [(9, .bool false), (8, .slice A n c)] (WLd rfl (QXn (ar _ _ (WC.ret (QXk (QXr ?_))))))))
   refine (hret _ _ _ rfl ?_).1
   clear hN hret hret' ar aq ad ag af hK2
   have aF : putK kN xs x out = xs := by unfold putK; rw [if_neg (by rw [show hasK kN (kN x) xs = false from ae]; decide), if_pos ab]; first | done | rfl
   have aG := own_count cellsN_len (by decide) aa
   rw [aF]
   exact ⟨_, by rw [ae]; rfl, ac.fr, by rw [aG]; exact aa, (fun y_ hy_ => .inl hy_)⟩
 ·
  refine WLz 3 [(19, .bool false)] (WLd rfl (QXn (ad _ _ (WCf rfl (WCs (fun a6 am => WCg (WLz 2 [(29, .bool out)] (WLd rfl (QXn (am _ _ (WC.know 29 (.bool out) (.bool false) rfl (congrArg Value.bool (by exact ab)) ?_)))))))))))
  refine WCf rfl (WCs (fun a7 an => WCg (WLz 2 [(32, .bool (hasK kN (kN x) xs))] (WLd rfl (QXn (an _ _ (WCa 32 (hasK kN (kN x) xs) rfl (fun ah => ?_) (fun ah => ?_))))))))
  ·
   refine WCt rfl (WCs (fun a8 au => WCg (WLq 2 [(35, I6 (rankK kN (kN x) xs : Int)), (34, .slice A n c)] (WLo 79 (P0 g3 0) (.agg #[U4 x.dip, U4 x.vip]) 36 (run_ld (ac.get 0 rfl) rfl) ?_))))
   have aS := own_count cellsN_len (by decide) aa
   obtain ⟨aT, av⟩ := get_some (xs := xs) (i := (rankK kN (kN x) xs)) (by first | omega | (have q_ := (has_lt (by assumption) hs).1; omega))
   obtain ⟨b44, aw⟩ := own_addr (by decide) cellsN_len aa av
   refine WLi A n c 37 .i64 (rankK kN (kN x) xs : Int) b44 0 (rankK kN (kN x) xs) 2 (by kernel_rfl) aw (by first | omega | (have q_ := (has_lt (by assumption) hs).1; omega)) (by first | omega | (have q_ := (has_lt (by assumption) hs).1; omega)) ((rankK kN (kN x) xs) * 2) (by first | (simp; done) | omega) ?_
   obtain ⟨a9, aH, aU, ax, aI⟩ := stoE_run Tryz.prog cellsN_len ac 0 aw rfl aa (rankK kN (kN x) xs) 0 (x := aT) av x [U4 x.dip, U4 x.vip] rfl 79 (.agg #[U4 x.dip, U4 x.vip]) ((rankK kN (kN x) xs) * 2) rfl rfl rfl (by first | rfl | simp [Nat.add_assoc])
   refine WLU aH (WLd rfl (QXn (au _ _ (WCs (fun ba ay => WCg (WLz 3 [(9, .bool true), (8, .slice A n c)] (WLd rfl (QXn (ay _ _ (WC.ret ?_))))))))))
   refine QXk (QXr ?_)
   refine (hret _ _ _ rfl ?_).1
   clear hN hret hret' ay au an am ad ag af hK2
   have aJ : putK kN xs x out = xs.set (rankK kN (kN x) xs) x := by unfold putK; rw [if_pos (show hasK kN (kN x) xs = true from ah), if_neg (by rw [ab]; decide)]; first | done | rfl
   have aK := own_count cellsN_len (by decide) ax
   rw [aJ]
   exact ⟨_, by rw [ah]; rfl, aI.fr, by rw [aK]; exact ax, (fun y_ hy_ => .inl hy_)⟩
  ·
   refine WCf rfl (WC.skip (QXb (QXn (ag _ _ (WCs (fun bb az => WCg (WLq 2 [(40, I6 (rankK kN (kN x) xs : Int)), (39, .slice A n c)] (WLo 79 (P0 g3 0) (.agg #[U4 x.dip, U4 x.vip]) 41 (run_ld (ac.get 0 rfl) rfl) ?_))))))))
   refine WL.newM ac (fun b => .slice (some ⟨b, 0, none⟩) 1 1) (.cells #[U4 x.dip, U4 x.vip] 79) 42 (fun _ => by kernel_rfl) (fun aV aW aX aL aj => ?_)
   have aA := own_fr aa aL (by simp)
   have hcnt_ := own_count cellsN_len (by decide) aA
   refine WLk (InsN_ct A aV n c (rankK kN (kN x) xs) xs x aW aA (aj.get 1 rfl) (aj.notin 0 1 rfl rfl) (by have q_ := rank_le (κ := kN) (kN x) xs; omega) (by omega)) ?_
   rintro _ bc ⟨v_, rfl, aM, ak, ai⟩
   have aN := aj.callF 0 rfl aM ai (own_lt ak)
   obtain ⟨aY, aZ, rfl, aQ⟩ := own_form ak
   refine ⟨_, rfl, ?_⟩
   refine WLq 2 [(9, .bool false), (8, .slice aY (n + 1) aZ)] (WLd rfl (QXn (az _ _ (WC.ret ?_))))
   refine (hret _ _ _ rfl ?_).1
   clear hN hret hret' az an am ad ag af hK2
   have aO : putK kN xs x out = (xs.take (rankK kN (kN x) xs) ++ x :: xs.drop (rankK kN (kN x) xs)) := by unfold putK; rw [if_neg (by rw [show hasK kN (kN x) xs = false from ah]; decide), if_neg (by rw [ab]; decide)]; first | done | rfl
   have aP := own_count cellsN_len (by decide) ak
   rw [aO]
   exact ⟨_, by rw [ah]; rfl, aN.fr, by rw [aP]; exact ak, (fun y_ hy_ => (ai y_ hy_).imp id (fun h_ => Nat.le_trans aj.fr.size h_))⟩

theorem BSFA (A : Option Addr) (c : Nat) (xs : List Int) (l : Int) (w : World) (hr : Rd w 1 (Go.Tw.encI .u32) A xs) (hs : sortK kA xs) (hm : xs.length < 2 ^ 40) : Calls Tryz.prog 117 #[.slice A xs.length c, U4 l, .func (.func 68) #[] #[]] w fun e w' => e = .returned (.tuple #[I6 (rankK kA (kA l) xs : Int), .bool (hasK kA (kA l) xs)]) ∧ Fr w w' [] := by
 refine enterD (n := 49) Tryz.func117 rfl rfl (Nat.le_of_ble_eq_true rfl) ?_
 intro Q0 hN hret hret'
 have hC := Cx.start w
 refine WCs (fun K1 hK2 => WCg (WLq 2 [(7, .bool false), (6, I6 0)] (WLd rfl (QXn (hK2 _ _ (WCs (fun K3 hK4 => WCg (WLz 3 [(8, I6 (xs.length : Int))] (WLd rfl (QXn (hK4 _ _ (WCs (fun K5 hK6 => ?_)))))))))))))
 refine WCg (WLz 3 [(10, I6 (xs.length : Int)), (9, I6 0)] (WLd rfl (QXn (hK6 _ _ (WCs (fun K7 hK8 => WC.block (WC.loop (fun m_ E_ w_ => ∃ (i j : Nat), m_ = j - i ∧ E_ = [(0, .slice A xs.length c), (1, U4 l), (2, .func (.func 68) #[] #[]), (6, I6 0), (7, .bool false), (8, I6 (xs.length : Int)), (9, I6 (i : Int)), (10, I6 (j : Int))] ∧ Cx w [] w_ [] [] ∧ (i ≤ j ∧ j ≤ xs.length ∧ (∀ q y, q < i → xs[q]? = some y → lt3 (kA y) (kA l) = true) ∧ (∀ q y, j ≤ q → xs[q]? = some y → lt3 (kA y) (kA l) = false))) ⟨_, _, ⟨0, xs.length, rfl, rfl, hC, Nat.zero_le _, Nat.le_refl _, fun q y hq => by omega, fun q y hq hy => by have := (List.getElem?_eq_some_iff.1 hy).1; omega⟩, sub_of ⟨rfl, rfl, rfl, rfl, rfl, rfl, rfl, rfl, trivial⟩⟩ (fun m12 E_ aB K9 aj am => ?_))))))))
 obtain ⟨i, j, rfl, rfl, aa, hij, hj, hlo, hhi⟩ := am
 refine WCs (fun aF ac => WCs (fun aG ad => WCg (WLz 3 [(17, .bool (decide ((i : Int) < (j : Int))))] (WLd rfl (QXn (ad _ _ (WCa 17 (decide ((i : Int) < (j : Int))) rfl (fun ae => ?_) (fun ae => ?_))))))))
 ·
  have aD : (i : Int) < (j : Int) := by have q_ := of_decide_eq_true ae; omega
  refine WCt rfl (WC.skip (QXn (ac _ _ (WC.block (WCs (fun aH an => WCg ?_))))))
  refine WLz 3 [(20, I6 (IntKind.i64.wrap ((i : Int) + (j : Int))))] (WLt (show (I6 (IntKind.i64.wrap ((i : Int) + (j : Int))) : Value) = I6 ((i : Int) + (j : Int)) from by rw [wrap_in_i64 ((i : Int) + (j : Int)) (by omega) (by omega)]) (WLq 1 [(21, .int .u64 (IntKind.u64.wrap ((i : Int) + (j : Int))))] (WLt (show (.int .u64 (IntKind.u64.wrap ((i : Int) + (j : Int))) : Value) = .int .u64 ((i : Int) + (j : Int)) from by rw [wrap_in_u64 ((i : Int) + (j : Int)) (by omega) (by omega)]) (WLq 1 [(22, .int .u64 (((i : Int) + (j : Int)).fdiv (2 ^ 1)))] (WLt (show (.int .u64 (((i : Int) + (j : Int)).fdiv (2 ^ 1)) : Value) = .int .u64 (((i : Int) + (j : Int)) / 2) from by rw [Int.fdiv_eq_ediv_of_nonneg ((i : Int) + (j : Int)) (by decide)]; rfl) ?_)))))
  refine WLq 1 [(23, I6 (IntKind.i64.wrap (((i : Int) + (j : Int)) / 2)))] (WLt (show (I6 (IntKind.i64.wrap (((i : Int) + (j : Int)) / 2)) : Value) = I6 (((i + j) / 2 : Nat) : Int) from by rw [wrap_in_i64 _ (by omega) (by omega)]; congr 1) (WLq 1 [(11, I6 (((i + j) / 2 : Nat) : Int))] (WLd rfl (QXn (an _ _ (WCs (fun aI ao => WCg (WLq 3 [(26, I6 (((i + j) / 2 : Nat) : Int)), (25, .slice A xs.length c), (24, .func (.func 68) #[] #[])] ?_))))))))
  obtain ⟨ai, af⟩ := get_some (xs := xs) (i := ((i + j) / 2)) (by omega)
  obtain ⟨b26, o28, ap, aq⟩ := hr.at_ _ _ af
  refine WLi A xs.length c 27 .i64 (((i + j) / 2 : Nat) : Int) b26 o28 ((i + j) / 2) 1 (by kernel_rfl) ap (by omega) (by omega) (o28 + ((i + j) / 2)) (by first | (simp; done) | omega) (WLo 40 (P0 b26 (o28 + ((i + j) / 2))) (U4 ai) 28 (run_load1 rfl (by simpa [Nat.add_assoc] using aa.fr.cell (aq 0 _ rfl) (by simp))) (WLq 1 [(29, U4 l)] (WLk (byAddr_ct ai l aB) ?_)))
  rintro _ aJ ⟨rfl, ar⟩
  refine ⟨_, rfl, ?_⟩
  have ak := aa.call ar
  refine WLq 1 [(31, .bool (decide ((cmp3 (kA ai) (kA l)) < 0)))] (WLd rfl (QXn (ao _ _ (WCa 31 (decide ((cmp3 (kA ai) (kA l)) < 0)) rfl (fun ag => ?_) (fun ag => ?_)))))
  ·
   have aC : (cmp3 (kA ai) (kA l)) < 0 := by have q_ := of_decide_eq_true ag; omega
   refine WCt rfl (WCg (WLz 2 [(33, I6 (IntKind.i64.wrap ((((i + j) / 2 : Nat) : Int) + 1)))] (WLt (show (I6 (IntKind.i64.wrap ((((i + j) / 2 : Nat) : Int) + 1)) : Value) = I6 ((((i + j) / 2 : Nat) : Int) + 1) from by rw [wrap_in_i64 ((((i + j) / 2 : Nat) : Int) + 1) (by omega) (by omega)]) (WLq 1 [(9, I6 ((((i + j) / 2 : Nat) : Int) + 1))] (WLd rfl ?_)))))
   refine QXb (QXn ?_)
   have au := ak.pick [] [] rfl rfl
   refine fun a_ ha_ => aj _ _ _ ?_ ⟨((i + j) / 2) + 1, j, rfl, rfl, au, by omega, by omega, bsK_lo hs af (cmp3_lt.1 aC), hhi⟩ a_ (ha_.weaken (sub_of ⟨rfl, rfl, rfl, rfl, rfl, rfl, rfl, rfl, trivial⟩))
   omega
  ·
   have aC : (0 : Int) ≤ (cmp3 (kA ai) (kA l)) := by have q_ := of_decide_eq_false ag; omega
   refine WCf rfl (WCg (WLz 2 [(10, I6 (((i + j) / 2 : Nat) : Int))] (WLd rfl (QXb (QXn ?_)))))
   have av := ak.pick [] [] rfl rfl
   refine fun a_ ha_ => aj _ _ _ ?_ ⟨i, ((i + j) / 2), rfl, rfl, av, by omega, by omega, hlo, bsK_hi hs af (cmp3_not (by omega))⟩ a_ (ha_.weaken (sub_of ⟨rfl, rfl, rfl, rfl, rfl, rfl, rfl, rfl, trivial⟩))
   omega
 ·
  have aD : (j : Int) ≤ (i : Int) := by have q_ := of_decide_eq_false ae; omega
  refine WCf rfl (WC.exit (QXe (QXe (QX.block_hit (QXn (hK8 _ _ ?_))))))
  refine WCs (fun aK ab => WCg (WLz 5 [(39, .bool (decide ((i : Int) < (xs.length : Int)))), (35, I6 (i : Int))] (WLa 39 (decide ((i : Int) < (xs.length : Int))) rfl (fun ah => ?_) (fun ah => ?_))))
  ·
   have aE : (i : Int) < (xs.length : Int) := by have q_ := of_decide_eq_true ah; omega
   refine WLq 3 [(42, I6 (i : Int)), (41, .slice A xs.length c), (40, .func (.func 68) #[] #[])] ?_
   obtain ⟨aw, al⟩ := get_some (xs := xs) (i := i) (by omega)
   obtain ⟨b41, o43, ax, ay⟩ := hr.at_ _ _ al
   refine WLi A xs.length c 43 .i64 (i : Int) b41 o43 i 1 (by kernel_rfl) ax (by omega) (by omega) (o43 + i) (by first | (simp; done) | omega) (WLo 40 (P0 b41 (o43 + i)) (U4 aw) 44 (run_load1 rfl (by simpa [Nat.add_assoc] using aa.fr.cell (ay 0 _ rfl) (by simp))) (WLq 1 [(45, U4 l)] (WLk (byAddr_ct aw l aB) ?_)))
   rintro _ aL ⟨rfl, az⟩
   refine ⟨_, rfl, ?_⟩
   have aA := aa.call az
   refine WLz 4 [(7, .bool ((cmp3 (kA aw) (kA l)) == 0)), (6, I6 (i : Int))] (WLd rfl (QXn (ab _ _ (WC.ret ?_))))
   refine (hret _ _ _ rfl ?_).1
   clear hN hret hret' ab ad ac hK8 hK6 hK4 hK2
   have e_ : i = j := by omega
   subst e_
   have hr_ := rank_of hj hlo hhi
   exact ⟨by rw [hr_]; exact congrArg (fun b_ => Ending.returned (.tuple #[I6 (i : Int), .bool b_])) (by rw [has_at hhi hlo hs al]), aA.fr⟩
  ·
   have aE : (xs.length : Int) ≤ (i : Int) := by have q_ := of_decide_eq_false ah; omega
   refine WLz 11 [(7, .bool false), (6, I6 (i : Int))] (WLd rfl (QXn (ab _ _ (WC.ret ?_))))
   refine (hret _ _ _ rfl ?_).1
   clear hN hret hret' ab ad ac hK8 hK6 hK4 hK2
   have e_ : i = j := by omega
   subst e_
   have hr_ := rank_of hj hlo hhi
   exact ⟨by rw [hr_]; exact congrArg (fun b_ => Ending.returned (.tuple #[I6 (i : Int), .bool b_])) (by rw [has_end hlo (by omega)]), aa.fr⟩

theorem BSFA_n (A : Option Addr) (n c : Nat) (xs : List Int) (l : Int) (w : World) (hr : Rd w 1 (Go.Tw.encI .u32) A xs) (hn : xs.length = n) (hs : sortK kA xs) (hm : n < 2 ^ 40) : Calls Tryz.prog 117 #[.slice A n c, .int .u32 l, .func (.func 68) #[] #[]] w fun e w' => e = .returned (.tuple #[.int .i64 (rankK kA (kA l) xs : Int), .bool (hasK kA (kA l) xs)]) ∧ Fr w w' [] := by subst hn; exact BSFA A c xs l w hr hs hm
theorem InsLtA (g b c n i : Nat) (L : List Value) (x : Int) (w : World) (hg : w.heap[g]? = some (.cells L.toArray 40 (0, 0))) (hb : w.heap[b]? = some (.cells #[U4 x] 40 (0, 0))) (hne : b ≠ g) (hi : i < n) (hnc : n ≤ c) (hL : L.length = c * 1) (hcm : c ≤ maxLen) (h1 : (L.take (n * 1)).all Value.oneCell' = true) (hlim : n < 2 ^ 40) : Calls Tryz.prog 119 #[.slice (some ⟨g, 0, none⟩) n c, I6 (i : Int), .slice (some ⟨b, 0, none⟩) 1 1] w fun e w' => ∃ v, e = .returned v ∧ Fr w w' [g] ∧ w'.ownsRow 0 40 1 v (n + 1) (L.take (i * 1) ++ [U4 x] ++ (L.drop (i * 1)).take ((n - i) * 1)) ∧ (∀ y ∈ blk v, y = g ∨ w.heap.size ≤ y) := by
 refine enterD (n := 95) Tryz.func119 rfl rfl (Nat.le_of_ble_eq_true rfl) ?_
 intro Q0 hN hret hret'
 have hC := Cx.startM hg
 refine WCs (fun K1 hK2 => WCg (WLq 1 [(6, .slice none 0 0)] (WLd rfl (QXn (hK2 _ _ (WCs (fun K3 hK4 => WCg (WLq 2 [(11, I6 (i : Int)), (10, .slice (some ⟨g, 0, none⟩) n c)] ?_))))))))
 have hb5 : n ≤ c := by omega
 refine WL.slc 28 40 1 (some ⟨g, 0, none⟩) (some ⟨g, i, none⟩) n c i n (n - i) (c - i) (some (I6 (i : Int))) none 12 (by kernel_rfl) (by kernel_rfl) (bnd.yes (by omega)) bnd.no (by omega) hb5 (slcAt_blk (by omega) (by simp)) (by first | rfl | omega) (by first | rfl | omega) (WLd rfl (QXn (hK4 _ _ (WCs (fun K6 hK7 => WCg (WLz 3 [(7, I6 1)] (WLd rfl (QXn (hK7 _ _ (WCs (fun K8 hK9 => ?_)))))))))))
 refine WCs (fun a5 ag => WCg (WLz 2 [(16, .bool false)] (WLd rfl (QXn (ag _ _ (WCf rfl (WC.skip (QXn (hK9 _ _ (WCs (fun a6 ah => WCg ?_)))))))))))
 refine WLz 3 [(8, I6 (n : Int))] (WLd rfl (QXn (ah _ _ (WCs (fun a7 ai => WCs (fun a8 aj => WCg (WLz 3 [(22, .bool ((i : Int) == (n : Int)))] (WLd rfl (QXn (aj _ _ (WC.know 22 (.bool ((i : Int) == (n : Int))) (.bool false) rfl (congrArg Value.bool (by simp; omega)) ?_)))))))))))
 refine WCf rfl (WC.skip (QXn (ai _ _ (WCs (fun a9 ak => WCs (fun ba al => WCg (WLz 3 [(28, I6 (IntKind.i64.wrap ((n : Int) + 1)))] (WLt (show (I6 (IntKind.i64.wrap ((n : Int) + 1)) : Value) = I6 ((n : Int) + 1) from by rw [wrap_in_i64 ((n : Int) + 1) (by omega) (by omega)]) ?_))))))))
 refine WLz 3 [(31, .bool (decide (((n : Int) + 1) > (c : Int))))] (WLd rfl (QXn (al _ _ (WCa 31 (decide (((n : Int) + 1) > (c : Int))) rfl (fun ae => ?_) (fun ae => ?_)))))
 ·
  have aX : (c : Int) < ((n : Int) + 1) := by have q_ := of_decide_eq_true ae; omega
  refine WCt rfl (WCs (fun bb am => WCg (WLq 2 [(33, I6 (i : Int)), (32, .slice (some ⟨g, 0, none⟩) n c)] ?_)))
  have ay : i ≤ c := by omega
  refine WL.slc 28 40 1 (some ⟨g, 0, none⟩) (some ⟨g, 0, none⟩) n c 0 i i c none (some (I6 (i : Int))) 34 (by kernel_rfl) (by kernel_rfl) bnd.no (bnd.yes (by omega)) (by omega) ay (slcAt_pre _ _ _) (by first | rfl | omega) (by first | rfl | omega) (WLz 3 [(37, I6 (IntKind.i64.wrap ((n : Int) + 1)))] (WLt (show (I6 (IntKind.i64.wrap ((n : Int) + 1)) : Value) = I6 ((n : Int) + 1) from by rw [wrap_in_i64 ((n : Int) + 1) (by omega) (by omega)]) (WLz 2 [(39, I6 (IntKind.i64.wrap (((n : Int) + 1) - (i : Int))))] (WLt (show (I6 (IntKind.i64.wrap (((n : Int) + 1) - (i : Int))) : Value) = I6 (((n : Int) + 1) - (i : Int)) from by rw [wrap_in_i64 (((n : Int) + 1) - (i : Int)) (by omega) (by omega)]) ?_))))
  obtain ⟨ad, aa, bc, az, aW, aY, aZ, an, af⟩ := appZ_run Tryz.prog hC 28 3 28 40 1 4 i c (n + 1 - i) (z := (U4 0)) (xs := (L.drop 0).take (i * 1)) rfl rfl (by kernel_rfl) (by decide) (by simp; omega) (srcOk.part (hC.get 0 rfl)) (by omega) (by omega) (by omega) (((n : Int) + 1) - (i : Int)) (by omega)
  have hL2l : ((L.drop 0).take (i * 1) ++ (Builtin.zeroCells (U4 0 : Value).cells (n + 1 - i)).toList ++ (Builtin.zeroCells (U4 0 : Value).cells (aa - (i + (n + 1 - i)))).toList).length = aa * 1 := by simp [size_zeroCells, Value.cells]; omega
  have hL2t : ((L.drop 0).take (i * 1) ++ (Builtin.zeroCells (U4 0 : Value).cells (n + 1 - i)).toList ++ (Builtin.zeroCells (U4 0 : Value).cells (aa - (i + (n + 1 - i)))).toList).take (i * 1) = L.take (i * 1) := by rw [List.append_assoc, List.take_append_of_le_length (by simp; omega)]; simp [List.take_take]
  generalize hL2 : ((L.drop 0).take (i * 1) ++ (Builtin.zeroCells (U4 0 : Value).cells (n + 1 - i)).toList ++ (Builtin.zeroCells (U4 0 : Value).cells (aa - (i + (n + 1 - i)))).toList) = L2 at af hL2l hL2t
  refine WL.sem (Builtin.append_ #[28, 3] 28 #[.slice (some ⟨g, 0, none⟩) i c, I6 (((n : Int) + 1) - (i : Int))]) 40 (.slice (some ⟨ad, 0, none⟩) (i + (n + 1 - i)) aa) (by kernel_rfl) az (WLq 1 [(9, .slice (some ⟨ad, 0, none⟩) (i + (n + 1 - i)) aa)] (WLd rfl (QXn (am _ _ (WCs (fun bd ao => WCg (WLq 2 [(42, I6 (i : Int)), (41, .slice (some ⟨ad, 0, none⟩) (i + (n + 1 - i)) aa)] ?_)))))))
  have aA : i + (n + 1 - i) ≤ aa := by omega
  refine WL.slc 28 40 1 (some ⟨ad, 0, none⟩) (some ⟨ad, i, none⟩) (i + (n + 1 - i)) aa i (i + (n + 1 - i)) ((i + (n + 1 - i)) - i) (aa - i) (some (I6 (i : Int))) none 43 (by kernel_rfl) (by kernel_rfl) (bnd.yes (by omega)) bnd.no (by omega) aA (slcAt_blk (by omega) (by simp)) (by first | rfl | omega) (by first | rfl | omega) (WLq 1 [(44, .slice (some ⟨b, 0, none⟩) 1 1)] ?_)
  obtain ⟨be, aB, a0, aC⟩ := copy_run Tryz.prog af 1 28 28 3 40 1 ad i ((i + (n + 1 - i)) - i) (aa - i) 1 1 1 (some ⟨b, 0, none⟩) [U4 x] rfl rfl (by show min _ _ = _; omega) rfl (srcOk.blk 1 (af.fr.has hb (by simpa using hne))) (by simp; omega) rfl
  refine WLS 45 aB (WLd rfl (QXn (ao _ _ (WCs (fun bf ap => WC.drawC aC [ad] (by kernel_rfl) (fun bg a1 aq ab => WDx 4 [(0, 46, .slice (some ⟨ad, 0, none⟩) (i + (n + 1 - i)) aa), (1, 47, I6 (i : Int)), (2, 48, I6 1), (3, 49, I6 (IntKind.i64.wrap ((i : Int) + 1)))] ab (WD.recast (show (I6 (IntKind.i64.wrap ((i : Int) + 1)) : Value) = I6 ((i : Int) + 1) from by rw [wrap_in_i64 ((i : Int) + 1) (by omega) (by omega)]) ?_)))))))
  have aD : i + (n + 1 - i) ≤ aa := by omega
  refine WD.slc (NPt (NPt hN)) 4 28 40 1 (some ⟨ad, 0, none⟩) (some ⟨ad, i + 1, none⟩) (i + (n + 1 - i)) aa (i + 1) (i + (n + 1 - i)) ((i + (n + 1 - i)) - (i + 1)) (aa - (i + 1)) (some (I6 ((i : Int) + 1))) none 50 (by kernel_rfl) (by kernel_rfl) (by kernel_rfl) (bnd.yes (by omega)) bnd.no (by omega) aD (slcAt_blk (by omega) (by simp)) (by first | rfl | omega) (by first | rfl | omega) ab (WDx 2 [(5, 51, .slice (some ⟨g, 0, none⟩) n c), (6, 52, I6 (i : Int))] ab ?_)
  have aE : n ≤ c := by omega
  refine WD.slc (NPt (NPt hN)) 7 28 40 1 (some ⟨g, 0, none⟩) (some ⟨g, i, none⟩) n c i n (n - i) (c - i) (some (I6 (i : Int))) none 53 (by kernel_rfl) (by kernel_rfl) (by kernel_rfl) (bnd.yes (by omega)) bnd.no (by omega) aE (slcAt_blk (by omega) (by simp)) (by first | rfl | omega) (by first | rfl | omega) ab ?_
  obtain ⟨bh, aF, aG, ar⟩ := copy_run Tryz.prog aq 1 28 28 3 40 1 ad (i + 1) ((i + (n + 1 - i)) - (i + 1)) (aa - (i + 1)) (n - i) (c - i) (n - i) (some ⟨g, i, none⟩) ((L.drop i).take ((n - i) * 1)) rfl rfl (by show min _ _ = _; omega) (by simp; omega) (srcOk.part (aq.get 0 rfl)) (by simp; omega) (all_part h1 (by omega))
  have aH := ab.trans aG (by simp)
  refine WDs 8 54 aF aH (WDd (QXn (ap _ _ (WCs (fun bi au => WCg (WLz 2 [(6, .slice (some ⟨ad, 0, none⟩) (i + (n + 1 - i)) aa)] (WLd rfl (QXn (au _ _ ?_)))))))))
  refine WC.ret (QXr ?_)
  refine (hret _ _ _ rfl ?_).1
  clear hN hret hret' au ap ao am al ak aj ai ah ag hK9 hK7 hK4 hK2
  refine ⟨_, rfl, ar.fr, ?_, by intro y hy; simp [shut, blk, Value.ownBlock] at hy; omega⟩
  rw [show i + (n + 1 - i) = n + 1 from by omega]
  exact own_of_blk (Nat.zero_le _) (ar.get 1 rfl) (by omega) an (by simp; omega) (by have q_ := (insAz 1 L2 [U4 x] ((L.drop (i * 1)).take ((n - i) * 1)) i n rfl (by simp; omega) (by omega) hi).trans (by rw [hL2t]); simpa using q_)
 ·
  have aX : ((n : Int) + 1) ≤ (c : Int) := by have q_ := of_decide_eq_false ae; omega
  refine WCf rfl (WC.skip (QXn (ak _ _ (WCs (fun bj aI => WCg (WLz 4 [(59, I6 (IntKind.i64.wrap ((n : Int) + 1))), (56, .slice (some ⟨g, 0, none⟩) n c)] (WLt (show (I6 (IntKind.i64.wrap ((n : Int) + 1)) : Value) = I6 ((n : Int) + 1) from by rw [wrap_in_i64 ((n : Int) + 1) (by omega) (by omega)]) ?_)))))))
  have aJ : n + 1 ≤ c := by omega
  refine WL.slc 28 40 1 (some ⟨g, 0, none⟩) (some ⟨g, 0, none⟩) n c 0 (n + 1) (n + 1) c none (some (I6 ((n : Int) + 1))) 60 (by kernel_rfl) (by kernel_rfl) bnd.no (bnd.yes (by omega)) (by omega) aJ (slcAt_pre _ _ _) (by first | rfl | omega) (by first | rfl | omega) (WLq 1 [(0, .slice (some ⟨g, 0, none⟩) (n + 1) c)] (WLd rfl (QXn (aI _ _ (WCs (fun bk a2 => WCs (fun bl aK => WCg (WLz 5 [(65, I6 (IntKind.i64.wrap ((i : Int) + 1))), (62, .slice (some ⟨g, 0, none⟩) (n + 1) c), (61, .slice (some ⟨b, 0, none⟩) 1 1)] ?_))))))))
  refine WLt (show (I6 (IntKind.i64.wrap ((i : Int) + 1)) : Value) = I6 ((i : Int) + 1) from by rw [wrap_in_i64 ((i : Int) + 1) (by omega) (by omega)]) ?_
  have aL : n + 1 ≤ c := by omega
  refine WL.slc 28 40 1 (some ⟨g, 0, none⟩) (some ⟨g, i + 1, none⟩) (n + 1) c (i + 1) (n + 1) ((n + 1) - (i + 1)) (c - (i + 1)) (some (I6 ((i : Int) + 1))) none 66 (by kernel_rfl) (by kernel_rfl) (bnd.yes (by omega)) bnd.no (by omega) aL (slcAt_blk (by omega) (by simp)) (by first | rfl | omega) (by first | rfl | omega) (WL.ext 147 #[.slice (some ⟨b, 0, none⟩) 1 1, .slice (some ⟨g, i + 1, none⟩) ((n + 1) - (i + 1)) (c - (i + 1))] 67 (.bool false) (by kernel_rfl) (run_overlaps (fn := Tryz.f147) (tS := 28) (tR := 4) (e := 40) (sz := 1) rfl (by kernel_rfl) (by kernel_rfl) (by kernel_rfl) (by kernel_rfl) (by kernel_rfl) (hC.fr.has hb (by simpa using hne)) (hC.get 0 rfl) hne (by rw [List.size_toArray]; omega)) (WLq 1 [(68, .bool true)] (WLd rfl (QXn (aK _ _ (WCt rfl (WCs (fun bm aM => WC.drawC hC [g] (by kernel_rfl) (fun bn a3 av ac => ?_)))))))))
  refine WDx 4 [(0, 69, .slice (some ⟨g, 0, none⟩) (n + 1) c), (1, 70, I6 (i : Int)), (2, 71, I6 1), (3, 72, I6 (IntKind.i64.wrap ((i : Int) + 1)))] ac (WD.recast (show (I6 (IntKind.i64.wrap ((i : Int) + 1)) : Value) = I6 ((i : Int) + 1) from by rw [wrap_in_i64 ((i : Int) + 1) (by omega) (by omega)]) ?_)
  have aN : n + 1 ≤ c := by omega
  refine WD.slc (NPt (NPt hN)) 4 28 40 1 (some ⟨g, 0, none⟩) (some ⟨g, i + 1, none⟩) (n + 1) c (i + 1) (n + 1) ((n + 1) - (i + 1)) (c - (i + 1)) (some (I6 ((i : Int) + 1))) none 73 (by kernel_rfl) (by kernel_rfl) (by kernel_rfl) (bnd.yes (by omega)) bnd.no (by omega) aN (slcAt_blk (by omega) (by simp)) (by first | rfl | omega) (by first | rfl | omega) ac (WDx 2 [(5, 74, .slice (some ⟨g, 0, none⟩) (n + 1) c), (6, 75, I6 (i : Int))] ac ?_)
  have aO : n + 1 ≤ c := by omega
  refine WD.slc (NPt (NPt hN)) 7 28 40 1 (some ⟨g, 0, none⟩) (some ⟨g, i, none⟩) (n + 1) c i (n + 1) ((n + 1) - i) (c - i) (some (I6 (i : Int))) none 76 (by kernel_rfl) (by kernel_rfl) (by kernel_rfl) (bnd.yes (by omega)) bnd.no (by omega) aO (slcAt_blk (by omega) (by simp)) (by first | rfl | omega) (by first | rfl | omega) ac ?_
  obtain ⟨bo, aP, aQ, aw⟩ := copy_run Tryz.prog av 0 28 28 3 40 1 g (i + 1) ((n + 1) - (i + 1)) (c - (i + 1)) ((n + 1) - i) (c - i) (n - i) (some ⟨g, i, none⟩) ((L.drop i).take ((n - i) * 1)) rfl rfl (by show min _ _ = _; omega) (by simp; omega) (srcOk.part (av.get 0 rfl)) (by simp; omega) (all_part h1 (by omega))
  have aR := ac.trans aQ (by simp)
  refine WDs 8 77 aP aR (WDd (QXn (aM _ _ (WCs (fun bp aS => WCg (WLq 2 [(79, I6 (i : Int)), (78, .slice (some ⟨g, 0, none⟩) (n + 1) c)] ?_))))))
  have aT : n + 1 ≤ c := by omega
  refine WL.slc 28 40 1 (some ⟨g, 0, none⟩) (some ⟨g, i, none⟩) (n + 1) c i (n + 1) ((n + 1) - i) (c - i) (some (I6 (i : Int))) none 80 (by kernel_rfl) (by kernel_rfl) (bnd.yes (by omega)) bnd.no (by omega) aT (slcAt_blk (by omega) (by simp)) (by first | rfl | omega) (by first | rfl | omega) (WLq 1 [(81, .slice (some ⟨b, 0, none⟩) 1 1)] ?_)
  obtain ⟨bq, aU, a4, ax⟩ := copy_run Tryz.prog aw 0 28 28 3 40 1 g i ((n + 1) - i) (c - i) 1 1 1 (some ⟨b, 0, none⟩) [U4 x] rfl rfl (by show min _ _ = _; omega) rfl (srcOk.blk 1 (aw.fr.has hb (by simpa using hne))) (by simp; omega) rfl
  refine WLS 82 aU (WLd rfl (QXn (aS _ _ (WCs (fun br aV => WCg (WLz 2 [(6, .slice (some ⟨g, 0, none⟩) (n + 1) c)] (WLd rfl (QXn (aV _ _ (WC.ret ?_))))))))))
  refine QXr ?_
  refine (hret _ _ _ rfl ?_).1
  exact ⟨_, rfl, ax.fr, own_of_blk (Nat.zero_le _) (ax.get 0 rfl) (by omega) hcm (by simp; omega) (by have q_ := insBz 1 L [U4 x] ((L.drop (i * 1)).take ((n - i) * 1)) i n rfl (by simp; omega) (by omega) hi; simpa using q_), by intro y hy; simp [shut, blk, Value.ownBlock] at hy; omega⟩

theorem InsEqA (A : Option Addr) (b n c : Nat) (xs : List Int) (x : Int) (w : World) (ho : w.ownsRow 0 40 1 (.slice A n c) n (xs.flatMap (Go.Tw.encI .u32))) (hb : w.heap[b]? = some (.cells #[U4 x] 40 (0, 0))) (hne : b ∉ blk (.slice A n c)) (hlim : n < 2 ^ 40) : Calls Tryz.prog 119 #[.slice A n c, I6 (n : Int), .slice (some ⟨b, 0, none⟩) 1 1] w fun e w' => ∃ v, e = .returned v ∧ Fr w w' (blk (.slice A n c)) ∧ w'.ownsRow 0 40 1 v (n + 1) ((xs ++ [x]).flatMap (Go.Tw.encI .u32)) ∧ (∀ y ∈ blk v, y ∈ blk (.slice A n c) ∨ w.heap.size ≤ y) := by
 refine enterD (n := 95) Tryz.func119 rfl rfl (Nat.le_of_ble_eq_true rfl) ?_
 intro Q0 hN hret hret'
 have hle : n ≤ c := by obtain ⟨A_, c_, h1_, h2_⟩ := own_form ho; simp at h1_; omega
 have hC := Cx.start1 w (own_lt ho)
 refine WCs (fun K1 hK2 => WCg (WLq 1 [(6, .slice none 0 0)] (WLd rfl (QXn (hK2 _ _ (WCs (fun K3 hK4 => WCg (WLq 2 [(11, I6 (n : Int)), (10, .slice A n c)] ?_))))))))
 obtain ⟨A5, hA6⟩ : ∃ A_, slcAt A n c 1 = A_ := ⟨_, rfl⟩
 have hle_ := own_le ho
 have hb7 : n ≤ c := by omega
 refine WL.slc 28 40 1 A A5 n c n n (n - n) (c - n) (some (I6 (n : Int))) none 12 (by kernel_rfl) (by kernel_rfl) (bnd.yes (by omega)) bnd.no (by omega) hb7 hA6 (by first | rfl | omega) (by first | rfl | omega) (WLd rfl (QXn (hK4 _ _ (WCs (fun K8 hK9 => WCg (WLz 3 [(7, I6 1)] (WLd rfl (QXn (hK9 _ _ (WCs (fun aq ac => ?_)))))))))))
 refine WCs (fun ar ad => WCg (WLz 2 [(16, .bool false)] (WLd rfl (QXn (ad _ _ (WCf rfl (WC.skip (QXn (ac _ _ (WCs (fun au ae => WCg ?_)))))))))))
 refine WLz 3 [(8, I6 (n : Int))] (WLd rfl (QXn (ae _ _ (WCs (fun av ao => WCs (fun aw af => WCg (WLz 3 [(22, .bool ((n : Int) == (n : Int)))] (WLd rfl (QXn (af _ _ (WC.know 22 (.bool ((n : Int) == (n : Int))) (.bool true) rfl (congrArg Value.bool (by simp)) ?_)))))))))))
 refine WCt rfl (WCs (fun ax ag => WCg (WLq 2 [(24, .slice (some ⟨b, 0, none⟩) 1 1), (23, .slice A n c)] ?_)))
 obtain ⟨ay, az, ah, ai, ap, aj, ak, aa⟩ := app_run Tryz.prog hC 0 (v := .slice A n c) rfl 28 28 40 1 4 n 1 1 (some ⟨b, 0, none⟩) rfl ho [U4 x] rfl (srcOk.blk 1 (hC.fr.has hb hne)) rfl (by simp only [maxLen]; omega) (by omega)
 have ab := own_snoc (enc := (Go.Tw.encI .u32)) (ys := xs) x ai
 obtain ⟨al, am, rfl, an⟩ := own_form ab
 refine WLS 25 ah (WLq 1 [(6, .slice al (n + 1) am)] (WLd rfl (QXn (ag _ _ (WC.ret (QXr ?_))))))
 refine (hret _ _ _ rfl ?_).1
 exact ⟨_, rfl, aj.fr, by simpa [shut] using ab, aa⟩

theorem InsA_ct (A : Option Addr) (b n c i : Nat) (xs : List Int) (x : Int) (w : World) (ho : w.ownsRow 0 40 1 (.slice A n c) n (xs.flatMap (Go.Tw.encI .u32))) (hb : w.heap[b]? = some (.cells #[.int .u32 x] 40 (0, 0))) (hne : b ∉ blk (.slice A n c)) (hi : i ≤ n) (hlim : n < 2 ^ 40) : Calls Tryz.prog 119 #[.slice A n c, .int .i64 (i : Int), .slice (some ⟨b, 0, none⟩) 1 1] w fun e w' => ∃ v, e = .returned v ∧ Fr w w' (blk (.slice A n c)) ∧ w'.ownsRow 0 40 1 v (n + 1) ((xs.take i ++ x :: xs.drop i).flatMap (Go.Tw.encI .u32)) ∧ (∀ y ∈ blk v, y ∈ blk (.slice A n c) ∨ w.heap.size ≤ y) := by
  have hcount := own_count (Go.Tw.encI_len _) (by decide) ho
  by_cases e : i = n
  · subst e
    refine (InsEqA A b i c xs x w ho hb hne hlim).mono fun e w' h => ?_
    rwa [← hcount, List.take_length, List.drop_length, hcount]
  · have hlt : i < n := by omega
    obtain ⟨g, cur, rfl, hg, hh, hnc, hcm, hsz, htk⟩ := own_blkd ho (by omega)
    have hbg : b ≠ g := by simpa [blk, Value.ownBlock] using hne
    have h1 : (cur.toList.take (n * 1)).all Value.oneCell' = true := by rw [htk]; exact flat_oneS (Go.Tw.encI_one _) _
    refine (InsLtA g b c n i cur.toList x w (by simpa using hh) hb hbg hlt hnc (by simpa using hsz) hcm h1 hlim).mono fun e w' h => ?_
    obtain ⟨v, he, hf, hown, hsub⟩ := h
    refine ⟨v, he, by simpa [blk, Value.ownBlock] using hf, ?_, by simpa [blk, Value.ownBlock] using hsub⟩
    have e1 : cur.toList.take (i * 1) = (xs.take i).flatMap (Go.Tw.encI .u32) := by rw [← flat_take (Go.Tw.encI_len _), ← htk, List.take_take, Nat.min_eq_left (by omega)]
    have e2 : (cur.toList.drop (i * 1)).take ((n - i) * 1) = (xs.drop i).flatMap (Go.Tw.encI .u32) := by rw [← flat_drop (Go.Tw.encI_len _), ← htk, List.drop_take]; congr 1; omega
    rw [e1, e2] at hown
    simpa [Go.Tw.encI] using hown
theorem DelA (A : Option Addr) (n c i : Nat) (xs : List Int) (w : World) (ho : w.ownsRow 0 40 1 (.slice A n c) n (xs.flatMap (Go.Tw.encI .u32))) (hi : i < n) (hlim : n < 2 ^ 40) : Calls Tryz.prog 118 #[.slice A n c, I6 (i : Int), I6 ((i : Int) + 1)] w fun e w' => e = .returned (.slice A (n - 1) c) ∧ Fr w w' (blk (.slice A n c)) ∧ w'.ownsRow 0 40 1 (.slice A (n - 1) c) (n - 1) ((xs.take i ++ xs.drop (i + 1)).flatMap (Go.Tw.encI .u32)) := by
 refine enterD (n := 33) Tryz.func118 rfl rfl (Nat.le_of_ble_eq_true rfl) ?_
 intro Q0 hN hret hret'
 have hC := Cx.start1 w (own_lt ho)
 have hle : n ≤ c := own_le ho
 have hcnt := own_count (Go.Tw.encI_len _) (by decide) ho
 refine WCs (fun K1 hK2 => WCg (WLq 1 [(6, .slice none 0 0)] (WLd rfl (QXn (hK2 _ _ (WCs (fun K3 hK4 => WCg (WLz 5 [(12, I6 (n : Int)), (10, I6 ((i : Int) + 1)), (9, I6 (i : Int)), (8, .slice A n c)] ?_))))))))
 have hr5 := fun w_ => run_slc3 (P := Tryz.prog) (w := w_) (t := 28) (e := 40) (sz := 1) (A := A) (nn := n) (c := c) (l := i) (h := i + 1) (m := n) (kl := .i64) (kh := .i64) (km := .i64) (il := (i : Int)) (ih := (i : Int) + 1) (im := (n : Int)) (by kernel_rfl) rfl (by omega) rfl (by omega) (by omega) (by omega)
 refine WL.sem (Instr.sliceAt 28 (.slice A n c) (some (I6 (i : Int))) (some (I6 ((i : Int) + 1))) (some (I6 (n : Int)))) 13 (.slice (slcAt A i n 1) (i + 1 - i) (n - i)) (by kernel_rfl) (hr5 _) (WLd rfl (QXn (hK4 _ _ (WCs (fun K6 hK7 => WCs (fun K8 hK9 => WCg (WLz 3 [(16, .bool ((i : Int) == ((i : Int) + 1)))] (WLd rfl (QXn (hK9 _ _ ?_))))))))))
 refine WC.know 16 (.bool ((i : Int) == ((i : Int) + 1))) (.bool false) rfl (congrArg Value.bool (by simp <;> omega)) (WCf rfl (WC.skip (QXn (hK7 _ _ (WCs (fun aB ac => WCg (WLz 3 [(7, I6 (n : Int))] (WLd rfl (QXn (ac _ _ (WCs (fun aC ad => ?_))))))))))))
 refine WC.drawC hC (blk (.slice A n c)) (by kernel_rfl) (fun aD aj ak aa => ?_)
 have al := own_fr ho aj (by simp)
 refine WDx 2 [(0, 20, .slice A n c), (1, 21, I6 (i : Int))] aa ?_
 have am : i ≤ c := by omega
 refine WD.slc (NPt hN) 2 28 40 1 A A n c 0 i i c none (some (I6 (i : Int))) 22 (by kernel_rfl) (by kernel_rfl) (by kernel_rfl) bnd.no (bnd.yes (by omega)) (by omega) am (slcAt_pre _ _ _) (by first | rfl | omega) (by first | rfl | omega) aa (WDx 2 [(3, 23, .slice A n c), (4, 24, I6 ((i : Int) + 1))] aa ?_)
 obtain ⟨ay, ae⟩ : ∃ A_, slcAt A (i + 1) c 1 = A_ := ⟨_, rfl⟩
 have an : n ≤ c := by omega
 refine WD.slc (NPt hN) 5 28 40 1 A ay n c (i + 1) n (n - (i + 1)) (c - (i + 1)) (some (I6 ((i : Int) + 1))) none 25 (by kernel_rfl) (by kernel_rfl) (by kernel_rfl) (bnd.yes (by omega)) bnd.no (by omega) an ae (by first | rfl | omega) (by first | rfl | omega) aa ?_
 obtain ⟨Y23, aE, ao, ap, aq, ar, au⟩ := del_app (P := Tryz.prog) ak 0 (t := 28) (ty := 28) (e := 40) (sz := 1) (bytes := 4) (i := i) (by kernel_rfl) rfl al (flat_oneS (Go.Tw.encI_one _) _) hi ae (by simp only [maxLen]; omega) (by omega)
 have af := aa.trans ar (fun x_ hx_ => .inl hx_)
 refine WDs 6 26 ao af (WDq 7 0 (.slice A (n - 1 : Nat) c) af (WDd (QXn (ad _ _ (WCs (fun aF ag => WCg ?_))))))
 refine WLz 4 [(30, I6 (n : Int)), (29, I6 ((n - 1 : Nat) : Int)), (27, .slice A (n - 1 : Nat) c)] ?_
 obtain ⟨az, ah⟩ : ∃ A_, slcAt A (n - 1) c 1 = A_ := ⟨_, rfl⟩
 have av : n ≤ c := by omega
 refine WL.slc 28 40 1 A az (n - 1 : Nat) c (n - 1) n (n - (n - 1)) (c - (n - 1)) (some (I6 ((n - 1 : Nat) : Int))) (some (I6 (n : Int))) 31 (by kernel_rfl) (by kernel_rfl) (bnd.yes (by omega)) (bnd.yes (by omega)) (by omega) av ah (by first | rfl | omega) (by first | rfl | omega) ?_
 obtain ⟨aG, aw, aA, ax, ab⟩ := clear_run (P := Tryz.prog) au 0 (t := 28) (ty := 0) (e := 40) (sz := 1) (bytes := 4) (nn := n) (i := n - 1) (by kernel_rfl) (by kernel_rfl) rfl ap (by omega) ah
 rw [aq] at ab
 refine WL.semN (Builtin.clear_ #[28] 0 #[.slice az (n - (n - 1)) (c - (n - 1))]) _ (by kernel_rfl) aw (WLd rfl (QXn (ag _ _ (WCs (fun aH ai => WCg (WLz 2 [(6, .slice A (n - 1 : Nat) c)] (WLd rfl (QXn (ai _ _ (WC.ret ?_))))))))))
 refine (hret _ _ _ rfl ?_).1
 clear hN hret hret' ai ag ad ac hK9 hK7 hK4 hK2
 rw [flat_take (Go.Tw.encI_len _), flat_drop (Go.Tw.encI_len _), ← List.flatMap_append] at ab
 exact ⟨rfl, ax.fr, ab⟩

theorem putA_ct (A : Option Addr) (n c : Nat) (xs : List Int) (x : Int) (out : Bool) (w : World) (ho : w.ownsRow 0 40 1 (.slice A n c) n (xs.flatMap (Go.Tw.encI .u32))) (hs : sortK kA xs) (hlim : n < 2 ^ 39) : Calls Tryz.prog 82 #[.slice A n c, U4 x, .func (.func 68) #[] #[], .bool out] w fun e w' => ∃ v, e = .returned (.tuple #[v, .bool (hasK kA (kA x) xs)]) ∧ Fr w w' (blk (.slice A n c)) ∧ w'.ownsRow 0 40 1 v (putK kA xs x out).length ((putK kA xs x out).flatMap (Go.Tw.encI .u32)) ∧ (∀ y ∈ blk v, y ∈ blk (.slice A n c) ∨ w.heap.size ≤ y) := by
 refine enterD (n := 44) Tryz.func82 rfl rfl (Nat.le_of_ble_eq_true rfl) ?_
 intro Q0 hN hret hret'
 have hC := Cx.start1 w (own_lt ho)
 have hle : n ≤ c := own_le ho
 have hcnt := own_count (Go.Tw.encI_len _) (by decide) ho
 have hrk := rank_le (κ := kA) (kA x) xs
 refine WCs (fun K1 hK2 => WCg (WLq 2 [(9, .bool false), (8, .slice none 0 0)] (WLd rfl (QXn (hK2 _ _ (WCs (fun K3 hK4 => WCg (WLq 3 [(15, .func (.func 68) #[] #[]), (14, U4 x), (13, .slice A n c)] (WLk (BSFA_n A n c xs x w (own_rd ho (Go.Tw.encI_len _) (by decide)) (own_count (Go.Tw.encI_len _) (by decide) ho) (hs) (by omega)) ?_)))))))))
 rintro _ w6 ⟨rfl, hF5⟩
 refine ⟨_, rfl, ?_⟩
 have hC7 := hC.call hF5
 have ho8 := own_fr ho hF5 (by simp)
 refine WLz 5 [(11, .bool (hasK kA (kA x) xs)), (10, I6 (rankK kA (kA x) xs : Int))] (WLd rfl (QXn (hK4 _ _ (WCs (fun K9 ad => WC.block (WCs (fun aV ab => WCg (WLz 2 [(21, .bool out)] ?_))))))))
 refine WLa 21 (out) rfl (fun aa => ?_) (fun aa => ?_)
 ·
  refine WLz 3 [(19, .bool (hasK kA (kA x) xs))] (WLd rfl (QXn (ab _ _ (WCa 19 (hasK kA (kA x) xs) rfl (fun ac => ?_) (fun ac => ?_)))))
  ·
   refine WCt rfl (WCs (fun aW al => WCg (WLz 4 [(27, I6 (IntKind.i64.wrap ((rankK kA (kA x) xs : Int) + 1))), (25, I6 (rankK kA (kA x) xs : Int)), (24, .slice A n c)] (WLt (show (I6 (IntKind.i64.wrap ((rankK kA (kA x) xs : Int) + 1)) : Value) = I6 ((rankK kA (kA x) xs : Int) + 1) from by rw [wrap_in_i64 ((rankK kA (kA x) xs : Int) + 1) (by first | omega | (have q_ := (has_lt (by assumption) hs).1; omega)) (by first | omega | (have q_ := (has_lt (by assumption) hs).1; omega))]) (WLk (DelA A n c (rankK kA (kA x) xs) xs w6 ho8 (by have q_ := (has_lt ac hs).1; omega) (by omega)) ?_)))))
   rintro _ aX ⟨rfl, ax, ai⟩
   have ay := hC7.callF 0 rfl ax (fun x_ hx_ => .inl (by rw [blk_n _ n c (n - 1) c]; exact hx_)) (own_lt ai)
   refine ⟨_, rfl, ?_⟩
   refine WLq 2 [(9, .bool true), (8, .slice A (n - 1) c)] (WLd rfl (QXn (al _ _ (WC.ret (QXk (QXr ?_))))))
   refine (hret _ _ _ rfl ?_).1
   clear hN hret hret' al ab ad hK4 hK2
   have az : putK kA xs x out = (xs.take (rankK kA (kA x) xs) ++ xs.drop ((rankK kA (kA x) xs) + 1)) := by unfold putK; rw [if_pos (show hasK kA (kA x) xs = true from ac), if_pos aa]; first | done | rfl
   have aA := own_count (Go.Tw.encI_len _) (by decide) ai
   rw [az]
   exact ⟨_, by rw [ac]; rfl, ay.fr, by rw [aA]; exact ai, (fun y_ hy_ => .inl (by rw [blk_n _ n c (n - 1) c]; exact hy_))⟩
  ·
   refine WCf rfl (WCs (fun aY am => WCg (WLz 2 [(29, .bool out)] (WLd rfl (QXn (am _ _ (WC.know 29 (.bool out) (.bool true) rfl (congrArg Value.bool (by exact aa)) (WCt rfl ?_))))))))
   refine WCs (fun aZ an => WCg (WLz 3 [(9, .bool false), (8, .slice A n c)] (WLd rfl (QXn (an _ _ (WC.ret (QXk (QXr ?_))))))))
   refine (hret _ _ _ rfl ?_).1
   clear hN hret hret' an am ab ad hK4 hK2
   have aB : putK kA xs x out = xs := by unfold putK; rw [if_neg (by rw [show hasK kA (kA x) xs = false from ac]; decide), if_pos aa]; first | done | rfl
   have aC := own_count (Go.Tw.encI_len _) (by decide) ho8
   rw [aB]
   exact ⟨_, by rw [ac]; rfl, hC7.fr, by rw [aC]; exact ho8, (fun y_ hy_ => .inl hy_)⟩
 ·
  refine WLz 3 [(19, .bool false)] (WLd rfl (QXn (ab _ _ (WCf rfl (WCs (fun a0 aj => WCg (WLz 2 [(29, .bool out)] (WLd rfl (QXn (aj _ _ (WC.know 29 (.bool out) (.bool false) rfl (congrArg Value.bool (by exact aa)) ?_)))))))))))
  refine WCf rfl (WCs (fun a1 ak => WCg (WLz 2 [(32, .bool (hasK kA (kA x) xs))] (WLd rfl (QXn (ak _ _ (WCa 32 (hasK kA (kA x) xs) rfl (fun ae => ?_) (fun ae => ?_))))))))
  ·
   refine WCt rfl (WCs (fun a2 ao => WCg (WLq 3 [(36, U4 x), (35, I6 (rankK kA (kA x) xs : Int)), (34, .slice A n c)] ?_)))
   have aN := own_count (Go.Tw.encI_len _) (by decide) ho8
   obtain ⟨aO, ap⟩ := get_some (xs := xs) (i := (rankK kA (kA x) xs)) (by first | omega | (have q_ := (has_lt (by assumption) hs).1; omega))
   obtain ⟨b38, aq⟩ := own_addr (by decide) (Go.Tw.encI_len _) ho8 ap
   refine WLi A n c 37 .i64 (rankK kA (kA x) xs : Int) b38 0 (rankK kA (kA x) xs) 1 (by kernel_rfl) aq (by first | omega | (have q_ := (has_lt (by assumption) hs).1; omega)) (by first | omega | (have q_ := (has_lt (by assumption) hs).1; omega)) (rankK kA (kA x) xs) (by first | (simp; done) | omega) ?_
   obtain ⟨a3, aD, aP, ar, aE⟩ := stoE_run Tryz.prog (Go.Tw.encI_len _) hC7 0 aq rfl ho8 (rankK kA (kA x) xs) 0 (x := aO) ap x [U4 x] rfl 40 (U4 x) ((rankK kA (kA x) xs)) rfl rfl rfl (by first | rfl | simp [Nat.add_assoc])
   refine WLU aD (WLd rfl (QXn (ao _ _ (WCs (fun a4 au => WCg (WLz 3 [(9, .bool true), (8, .slice A n c)] (WLd rfl (QXn (au _ _ (WC.ret ?_))))))))))
   refine QXk (QXr ?_)
   refine (hret _ _ _ rfl ?_).1
   clear hN hret hret' au ao ak aj ab ad hK4 hK2
   have aF : putK kA xs x out = xs.set (rankK kA (kA x) xs) x := by unfold putK; rw [if_pos (show hasK kA (kA x) xs = true from ae), if_neg (by rw [aa]; decide)]; first | done | rfl
   have aG := own_count (Go.Tw.encI_len _) (by decide) ar
   rw [aF]
   exact ⟨_, by rw [ae]; rfl, aE.fr, by rw [aG]; exact ar, (fun y_ hy_ => .inl hy_)⟩
  ·
   refine WCf rfl (WC.skip (QXb (QXn (ad _ _ (WCs (fun a5 av => WCg (WLq 3 [(41, U4 x), (40, I6 (rankK kA (kA x) xs : Int)), (39, .slice A n c)] (WL.newM hC7 (fun b => .slice (some ⟨b, 0, none⟩) 1 1) (.cells #[U4 x] 40) 42 (fun _ => by kernel_rfl) (fun aQ aR aS aH ag => ?_)))))))))
   have aw := own_fr ho8 aH (by simp)
   have hcnt_ := own_count (Go.Tw.encI_len _) (by decide) aw
   refine WLk (InsA_ct A aQ n c (rankK kA (kA x) xs) xs x aR aw (ag.get 0 rfl) (ag.notin 0 0 rfl rfl) (by have q_ := rank_le (κ := kA) (kA x) xs; omega) (by omega)) ?_
   rintro _ a6 ⟨v_, rfl, aI, ah, af⟩
   have aJ := ag.callF 0 rfl aI af (own_lt ah)
   obtain ⟨aT, aU, rfl, aM⟩ := own_form ah
   refine ⟨_, rfl, ?_⟩
   refine WLq 2 [(9, .bool false), (8, .slice aT (n + 1) aU)] (WLd rfl (QXn (av _ _ (WC.ret ?_))))
   refine (hret _ _ _ rfl ?_).1
   clear hN hret hret' av ak aj ab ad hK4 hK2
   have aK : putK kA xs x out = (xs.take (rankK kA (kA x) xs) ++ x :: xs.drop (rankK kA (kA x) xs)) := by unfold putK; rw [if_neg (by rw [show hasK kA (kA x) xs = false from ae]; decide), if_neg (by rw [aa]; decide)]; first | done | rfl
   have aL := own_count (Go.Tw.encI_len _) (by decide) ah
   rw [aK]
   exact ⟨_, by rw [ae]; rfl, aJ.fr, by rw [aL]; exact ah, (fun y_ hy_ => (af y_ hy_).imp id (fun h_ => Nat.le_trans ag.fr.size h_))⟩

end Go.Proofs.YtfligklljkcbfaaGreatDoor
