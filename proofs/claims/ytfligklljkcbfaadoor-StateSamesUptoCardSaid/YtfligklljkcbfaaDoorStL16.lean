/- Contracts of functions of the program, each proved by a walk through its code; conditions stand in the statements. -/
import Derived.Test.YtfligklljkcbfaaDoorStK16
import Derived.Test.YtfligklljkcbfaaDoorTwDel
namespace Go.Proofs.YtfligklljkcbfaaDoor
set_option linter.unusedSimpArgs false
set_option linter.unusedVariables false
set_option linter.unusedSectionVars false
open Go Go.RowKit Go.Tw
set_option linter.unusedVariables false
set_option maxRecDepth 20000
abbrev K3 := Int × Int × Int
def lt3 (a b : K3) : Bool := decide (a.1 < b.1 ∨ (a.1 = b.1 ∧ (a.2.1 < b.2.1 ∨ (a.2.1 = b.2.1 ∧ a.2.2 < b.2.2))))
def cmp3 (a b : K3) : Int := orI [cmpI a.1 b.1, cmpI a.2.1 b.2.1, cmpI a.2.2 b.2.2]
theorem lt3_iff {a b : K3} : lt3 a b = true ↔ a.1 < b.1 ∨ (a.1 = b.1 ∧ (a.2.1 < b.2.1 ∨ (a.2.1 = b.2.1 ∧ a.2.2 < b.2.2))) := decide_eq_true_iff
theorem k3_eq {a b : K3} : a = b ↔ a.1 = b.1 ∧ a.2.1 = b.2.1 ∧ a.2.2 = b.2.2 := by
  obtain ⟨a1, a2, a3⟩ := a; obtain ⟨b1, b2, b3⟩ := b; simp
theorem lt3_trans {a b c : K3} (h : lt3 a b = true) (k : lt3 b c = true) : lt3 a c = true := by
  rw [lt3_iff] at *; omega
theorem lt3_irr (a : K3) : lt3 a a = false := by
  cases h : lt3 a a
  · rfl
  · rw [lt3_iff] at h; omega
theorem lt3_ne {a b : K3} (h : lt3 a b = true) : a ≠ b := fun e => by subst e; rw [lt3_irr] at h; cases h
theorem lt3_asym {a b : K3} (h : lt3 a b = true) : lt3 b a = false := by
  cases k : lt3 b a
  · rfl
  · rw [lt3_iff] at *; omega
theorem lt3_tot {a b : K3} (h : lt3 a b = false) (hne : a ≠ b) : lt3 b a = true := by
  have h1 : ¬ lt3 a b = true := by rw [h]; decide
  rw [lt3_iff] at *
  have h2 : ¬ (a.1 = b.1 ∧ a.2.1 = b.2.1 ∧ a.2.2 = b.2.2) := fun q => hne (k3_eq.2 q)
  omega
theorem cmp3_lt {a b : K3} : cmp3 a b < 0 ↔ lt3 a b = true := by
  rw [lt3_iff]
  simp only [cmp3, orI, cmpI]
  (repeat' split) <;> omega
theorem cmp3_eq {a b : K3} : cmp3 a b = 0 ↔ a = b := by
  rw [k3_eq]
  simp only [cmp3, orI, cmpI]
  (repeat' split) <;> omega
theorem cmp3_not {a b : K3} (h : ¬ cmp3 a b < 0) : lt3 a b = false := by
  cases k : lt3 a b
  · rfl
  · exact absurd (cmp3_lt.2 k) h
theorem cmp3_one (x y : Int) : cmp3 (x, 0, 0) (y, 0, 0) = cmpI x y := by
  simp only [cmp3, orI, cmpI]
  (repeat' split) <;> omega
section
variable {α : Type} {κ : α → K3}
def sortK (κ : α → K3) (xs : List α) : Prop := xs.Pairwise (fun a b => lt3 (κ a) (κ b) = true)
def rankK (κ : α → K3) (k : K3) (xs : List α) : Nat := (xs.takeWhile (fun x => lt3 (κ x) k)).length
def hasK (κ : α → K3) (k : K3) (xs : List α) : Bool := xs.any (fun x => decide (κ x = k))
def putK (κ : α → K3) (xs : List α) (x : α) (out : Bool) : List α :=
  if hasK κ (κ x) xs = true then (if out = true then xs.take (rankK κ (κ x) xs) ++ xs.drop (rankK κ (κ x) xs + 1) else xs.set (rankK κ (κ x) xs) x)
  else (if out = true then xs else xs.take (rankK κ (κ x) xs) ++ x :: xs.drop (rankK κ (κ x) xs))
theorem sortK_get {xs : List α} (hs : sortK κ xs) {i j : Nat} {x y : α} (hij : i < j) (hi : xs[i]? = some x) (hj : xs[j]? = some y) : lt3 (κ x) (κ y) = true := by
  obtain ⟨h1, rfl⟩ := List.getElem?_eq_some_iff.1 hi
  obtain ⟨h2, rfl⟩ := List.getElem?_eq_some_iff.1 hj
  exact List.pairwise_iff_getElem.1 hs i j h1 h2 hij
theorem bsK_lo {xs : List α} {k : K3} {x : α} {h : Nat} (hs : sortK κ xs) (he : xs[h]? = some x) (hlt : lt3 (κ x) k = true) : ∀ q y, q < h + 1 → xs[q]? = some y → lt3 (κ y) k = true := by
  intro q y hq hy
  by_cases e : q = h
  · subst e; rw [he] at hy; cases hy; exact hlt
  · exact lt3_trans (sortK_get hs (by omega) hy he) hlt
theorem bsK_hi {xs : List α} {k : K3} {x : α} {h : Nat} (hs : sortK κ xs) (he : xs[h]? = some x) (hlt : lt3 (κ x) k = false) : ∀ q y, h ≤ q → xs[q]? = some y → lt3 (κ y) k = false := by
  intro q y hq hy
  by_cases e : q = h
  · subst e; rw [he] at hy; cases hy; exact hlt
  · cases hc : lt3 (κ y) k
    · rfl
    · rw [lt3_trans (sortK_get hs (by omega) he hy) hc] at hlt; cases hlt
theorem rank_of {xs : List α} {k : K3} {i : Nat} (hi : i ≤ xs.length) (hlo : ∀ q y, q < i → xs[q]? = some y → lt3 (κ y) k = true) (hhi : ∀ q y, i ≤ q → xs[q]? = some y → lt3 (κ y) k = false) : rankK κ k xs = i := by
  unfold rankK
  have e : xs.takeWhile (fun x => lt3 (κ x) k) = xs.take i := by
    conv => lhs; rw [← List.take_append_drop i xs]
    rw [List.takeWhile_append_of_pos (fun x hx => by
      obtain ⟨q, hq⟩ := List.getElem?_of_mem hx
      rw [List.getElem?_take] at hq
      split at hq
      · exact hlo q x (by assumption) hq
      · cases hq)]
    cases hd : xs.drop i with
    | nil => simp
    | cons y r =>
      have hy : xs[i]? = some y := by
        have := congrArg (fun l => l[0]?) hd
        simpa using this
      rw [List.takeWhile_cons, hhi i y (Nat.le_refl _) hy]; simp
  rw [e, List.length_take]; exact Nat.min_eq_left hi
theorem has_at {xs : List α} {k : K3} {i : Nat} {x : α} (hhi : ∀ q y, i ≤ q → xs[q]? = some y → lt3 (κ y) k = false) (hlo : ∀ q y, q < i → xs[q]? = some y → lt3 (κ y) k = true) (hs : sortK κ xs) (hx : xs[i]? = some x) : hasK κ k xs = (cmp3 (κ x) k == 0) := by
  unfold hasK
  by_cases e : κ x = k
  · rw [show (cmp3 (κ x) k == 0) = true from by rw [cmp3_eq.2 e]; rfl]
    exact List.any_eq_true.2 ⟨x, List.mem_of_getElem? hx, decide_eq_true e⟩
  · rw [show (cmp3 (κ x) k == 0) = false from by simpa using fun h => e (cmp3_eq.1 h)]
    rw [List.any_eq_false]
    intro y hy hyk
    have hyk := of_decide_eq_true hyk
    obtain ⟨q, hq⟩ := List.getElem?_of_mem hy
    by_cases c1 : q < i
    · exact lt3_ne (hlo q y c1 hq) hyk
    · by_cases c2 : q = i
      · subst c2; rw [hx] at hq; cases hq; exact e hyk
      · have h1 := sortK_get hs (show i < q by omega) hx hq
        rw [hyk] at h1
        rw [hhi i x (Nat.le_refl _) hx] at h1; cases h1
theorem has_end {xs : List α} {k : K3} {i : Nat} (hlo : ∀ q y, q < i → xs[q]? = some y → lt3 (κ y) k = true) (hi : xs.length ≤ i) : hasK κ k xs = false := by
  unfold hasK
  rw [List.any_eq_false]
  intro y hy hyk
  obtain ⟨q, hq⟩ := List.getElem?_of_mem hy
  have := (List.getElem?_eq_some_iff.1 hq).1
  exact lt3_ne (hlo q y (by omega) hq) (of_decide_eq_true hyk)
theorem rank_le (k : K3) (xs : List α) : rankK κ k xs ≤ xs.length := List.Sublist.length_le (List.takeWhile_sublist _)
theorem rank_lo {k : K3} {xs : List α} {q : Nat} {y : α} (hq : q < rankK κ k xs) (hy : xs[q]? = some y) : lt3 (κ y) k = true := by
  have h1 : (xs.takeWhile (fun x => lt3 (κ x) k))[q]? = some y := by
    have hp := List.takeWhile_prefix (fun x => lt3 (κ x) k) (l := xs)
    obtain ⟨t, ht⟩ := hp
    have : xs[q]? = (xs.takeWhile (fun x => lt3 (κ x) k))[q]? := by
      conv => lhs; rw [← ht]
      exact List.getElem?_append_left hq
    rw [← this]; exact hy
  exact List.all_eq_true.1 List.all_takeWhile y (List.mem_of_getElem? h1)
theorem rank_hi0 {k : K3} {xs : List α} {y : α} (hy : xs[rankK κ k xs]? = some y) : lt3 (κ y) k = false := by
  unfold rankK at hy
  induction xs with
  | nil => cases hy
  | cons a r ih =>
    rw [List.takeWhile_cons] at hy
    cases h : lt3 (κ a) k
    · rw [h] at hy; simp at hy; subst hy; exact h
    · rw [h] at hy; simp at hy; exact ih hy
theorem rank_hi {k : K3} {xs : List α} (hs : sortK κ xs) {q : Nat} {y : α} (hq : rankK κ k xs ≤ q) (hy : xs[q]? = some y) : lt3 (κ y) k = false := by
  have hlt : rankK κ k xs < xs.length := by have := (List.getElem?_eq_some_iff.1 hy).1; omega
  exact bsK_hi hs (List.getElem?_eq_getElem hlt) (rank_hi0 (List.getElem?_eq_getElem hlt)) q y hq hy
theorem has_lt {k : K3} {xs : List α} (h : hasK κ k xs = true) (hs : sortK κ xs) : rankK κ k xs < xs.length ∧ ∃ y, xs[rankK κ k xs]? = some y ∧ κ y = k := by
  obtain ⟨y, hy, hyk⟩ := List.any_eq_true.1 h
  have hyk := of_decide_eq_true hyk
  obtain ⟨q, hq⟩ := List.getElem?_of_mem hy
  have hql := (List.getElem?_eq_some_iff.1 hq).1
  have h1 : ¬ q < rankK κ k xs := fun hlt => lt3_ne (rank_lo hlt hq) hyk
  have h2 : rankK κ k xs < xs.length := by omega
  obtain ⟨z, hz⟩ : ∃ z, xs[rankK κ k xs]? = some z := ⟨_, List.getElem?_eq_getElem h2⟩
  refine ⟨h2, z, hz, ?_⟩
  by_cases e : rankK κ k xs = q
  · rw [e, hq] at hz; cases hz; exact hyk
  · exfalso
    have h3 := sortK_get hs (show rankK κ k xs < q by omega) hz hq
    rw [hyk, rank_hi0 hz] at h3; cases h3
theorem put_cut {xs : List α} {x : α} {out : Bool} (hs : sortK κ xs) : putK κ xs x out = xs.filter (fun y => lt3 (κ y) (κ x)) ++ (if out then [] else [x]) ++ xs.filter (fun y => lt3 (κ x) (κ y)) := by
  have hr := rank_le (κ := κ) (κ x) xs
  have e1 : xs.filter (fun y => lt3 (κ y) (κ x)) = xs.take (rankK κ (κ x) xs) := by
    conv => lhs; rw [← List.take_append_drop (rankK κ (κ x) xs) xs]
    rw [List.filter_append]
    rw [List.filter_eq_self.2 (fun y hy => by
      obtain ⟨q, hq⟩ := List.getElem?_of_mem hy
      rw [List.getElem?_take] at hq
      split at hq
      · exact rank_lo (by assumption) hq
      · cases hq)]
    rw [List.filter_eq_nil_iff.2 (fun y hy => by
      obtain ⟨q, hq⟩ := List.getElem?_of_mem hy
      rw [List.getElem?_drop] at hq
      rw [rank_hi hs (Nat.le_add_right _ _) hq]; decide), List.append_nil]
  by_cases hh : hasK κ (κ x) xs = true
  · obtain ⟨hlt, y, hy, hyk⟩ := has_lt hh hs
    have e2 : xs.filter (fun y => lt3 (κ x) (κ y)) = xs.drop (rankK κ (κ x) xs + 1) := by
      conv => lhs; rw [← List.take_append_drop (rankK κ (κ x) xs + 1) xs]
      rw [List.filter_append]
      rw [List.filter_eq_nil_iff.2 (fun z hz => by
        obtain ⟨q, hq⟩ := List.getElem?_of_mem hz
        rw [List.getElem?_take] at hq
        split at hq
        · by_cases e : q = rankK κ (κ x) xs
          · rw [e, hy] at hq; cases hq; rw [hyk, lt3_irr]; decide
          · rw [lt3_asym (rank_lo (by omega) hq)]; decide
        · cases hq)]
      rw [List.filter_eq_self.2 (fun z hz => by
        obtain ⟨q, hq⟩ := List.getElem?_of_mem hz
        rw [List.getElem?_drop] at hq
        have := sortK_get hs (show rankK κ (κ x) xs < rankK κ (κ x) xs + 1 + q by omega) hy hq
        rwa [hyk] at this), List.nil_append]
    rw [e1, e2]
    unfold putK
    rw [if_pos hh]
    cases out
    · simp only [Bool.false_eq_true, if_false]
      rw [List.set_eq_take_append_cons_drop, if_pos hlt]; simp
    · simp
  · have hf : hasK κ (κ x) xs = false := by simpa using hh
    have e2 : xs.filter (fun y => lt3 (κ x) (κ y)) = xs.drop (rankK κ (κ x) xs) := by
      conv => lhs; rw [← List.take_append_drop (rankK κ (κ x) xs) xs]
      rw [List.filter_append]
      rw [List.filter_eq_nil_iff.2 (fun z hz => by
        obtain ⟨q, hq⟩ := List.getElem?_of_mem hz
        rw [List.getElem?_take] at hq
        split at hq
        · rw [lt3_asym (rank_lo (by assumption) hq)]; decide
        · cases hq)]
      rw [List.filter_eq_self.2 (fun z hz => by
        obtain ⟨q, hq⟩ := List.getElem?_of_mem hz
        rw [List.getElem?_drop] at hq
        have h1 := rank_hi hs (Nat.le_add_right _ _) hq
        refine lt3_tot h1 fun e => ?_
        exact absurd (List.any_eq_true.2 ⟨z, List.mem_of_mem_drop hz, decide_eq_true e⟩ : hasK κ (κ x) xs = true) hh), List.nil_append]
    rw [e1, e2]
    unfold putK
    rw [if_neg hh]
    cases out
    · simp
    · simp
theorem put_mem {xs : List α} {x : α} {out : Bool} (hs : sortK κ xs) {y : α} : y ∈ putK κ xs x out ↔ (y ∈ xs ∧ κ y ≠ κ x) ∨ (out = false ∧ y = x) := by
  rw [put_cut hs]
  simp only [List.mem_append, List.mem_filter]
  constructor
  · rintro ((⟨h1, h2⟩ | h) | ⟨h1, h2⟩)
    · exact .inl ⟨h1, lt3_ne h2⟩
    · cases out
      · simp at h; exact .inr ⟨rfl, h⟩
      · simp at h
    · exact .inl ⟨h1, fun e => lt3_ne h2 e.symm⟩
  · rintro (⟨h1, h2⟩ | ⟨rfl, rfl⟩)
    · cases h : lt3 (κ y) (κ x)
      · exact .inr ⟨h1, lt3_tot h h2⟩
      · exact .inl (.inl ⟨h1, rfl⟩)
    · exact .inl (.inr (by simp))
theorem put_sort {xs : List α} {x : α} {out : Bool} (hs : sortK κ xs) : sortK κ (putK κ xs x out) := by
  rw [put_cut hs]
  unfold sortK
  rw [List.pairwise_append, List.pairwise_append]
  refine ⟨⟨List.Pairwise.filter _ hs, by cases out <;> simp, fun a ha b hb => ?_⟩, List.Pairwise.filter _ hs, fun a ha b hb => ?_⟩
  · cases out
    · simp at hb; subst hb; exact (List.mem_filter.1 ha).2
    · simp at hb
  · have hb2 := (List.mem_filter.1 hb).2
    rcases List.mem_append.1 ha with ha | ha
    · exact lt3_trans (List.mem_filter.1 ha).2 hb2
    · cases out
      · simp at ha; subst ha; exact hb2
      · simp at ha
theorem put_len {xs : List α} {x : α} {out : Bool} (hs : sortK κ xs) : (putK κ xs x out).length ≤ xs.length + 1 := by
  unfold putK
  have hr := rank_le (κ := κ) (κ x) xs
  by_cases h : hasK κ (κ x) xs = true
  · have := (has_lt h hs).1
    rw [if_pos h]; cases out <;> simp <;> omega
  · rw [if_neg h]; cases out <;> simp <;> omega
end
structure SvcV where
  vip : Int
  proto : Int
  port : Int
  ends : List EndV
deriving DecidableEq
structure Svc where
  v : SvcV
  a : Option Addr
  c : Nat
def cellsS (s : Svc) : List Value := [.int .u32 s.v.vip, .int .i64 s.v.proto, .int .i64 s.v.port, .slice s.a s.v.ends.length s.c]
theorem cellsS_len (s : Svc) : (cellsS s).length = 4 := rfl
theorem cellsS_one (s : Svc) : (cellsS s).all Value.oneCell' = true := rfl
structure SnatV where
  dip : Int
  vip : Int
deriving DecidableEq
def cellsN (s : SnatV) : List Value := [.int .u32 s.dip, .int .u32 s.vip]
theorem cellsN_len (s : SnatV) : (cellsN s).length = 2 := rfl
theorem cellsN_one (s : SnatV) : (cellsN s).all Value.oneCell' = true := rfl
def kV (s : SvcV) : K3 := (s.vip, s.proto, s.port)
def kS (s : Svc) : K3 := kV s.v
def kN (s : SnatV) : K3 := (s.dip, 0, 0)
def kA (x : Int) : K3 := (x, 0, 0)
theorem insAz (sz : Nat) (L2 vs cs : List Value) (i n : Nat) (hv : vs.length = sz) (hc : cs.length = (n - i) * sz) (hp : i * sz ≤ L2.length) (hi : i < n) :
    (((L2.take (i * sz) ++ vs ++ L2.drop (i * sz + vs.length)).take ((i + 1) * sz) ++ cs ++ (L2.take (i * sz) ++ vs ++ L2.drop (i * sz + vs.length)).drop ((i + 1) * sz + cs.length)).take ((n + 1) * sz)) = L2.take (i * sz) ++ vs ++ cs := by
  have h := insA L2 vs cs ((L2.take (i * sz) ++ vs ++ L2.drop (i * sz + vs.length)).drop ((i + 1) * sz + cs.length)) (i * sz) hp
  rw [show (i + 1) * sz = i * sz + vs.length from by rw [Nat.add_mul]; omega] at h ⊢
  rw [show (n + 1) * sz = i * sz + vs.length + cs.length from by rw [hv, hc, ← Nat.succ_mul, ← Nat.add_mul]; congr 1; omega]
  exact h
theorem insBz (sz : Nat) (L vs cs : List Value) (i n : Nat) (hv : vs.length = sz) (hc : cs.length = (n - i) * sz) (hp : (i + 1) * sz ≤ L.length) (hi : i < n) :
    (((L.take ((i + 1) * sz) ++ cs ++ L.drop ((i + 1) * sz + cs.length)).take (i * sz) ++ vs ++ (L.take ((i + 1) * sz) ++ cs ++ L.drop ((i + 1) * sz + cs.length)).drop (i * sz + vs.length)).take ((n + 1) * sz)) = L.take (i * sz) ++ vs ++ cs := by
  have hp2 : i * sz + vs.length ≤ L.length := by rw [Nat.add_mul] at hp; omega
  have h := insB L vs cs (L.drop ((i + 1) * sz + cs.length)) (i * sz) hp2
  rw [show (i + 1) * sz = i * sz + vs.length from by rw [Nat.add_mul]; omega] at h ⊢
  rw [show (n + 1) * sz = i * sz + vs.length + cs.length from by rw [hv, hc, ← Nat.succ_mul, ← Nat.add_mul]; congr 1; omega]
  exact h
theorem flat_oneS {α : Type} {enc : α → List Value} (h : ∀ x, (enc x).all Value.oneCell' = true) (xs : List α) : (xs.flatMap enc).all Value.oneCell' = true := by
  rw [List.all_eq_true]
  intro v hv
  obtain ⟨x, _, hx⟩ := List.mem_flatMap.1 hv
  exact List.all_eq_true.1 (h x) v hx
theorem byName_ct (a b : Svc) (w : World) : Calls Tryd.prog 30 #[.agg #[.int .u32 a.v.vip, .int .i64 a.v.proto, .int .i64 a.v.port, .slice a.a a.v.ends.length a.c], .agg #[.int .u32 b.v.vip, .int .i64 b.v.proto, .int .i64 b.v.port, .slice b.a b.v.ends.length b.c]] w fun e w' => e = .returned (.int .i64 (cmp3 (kS a) (kS b))) ∧ Fr w w' [] := by
 refine enterD (n := 22) Tryd.func30 rfl rfl (Nat.le_of_ble_eq_true rfl) ?_
 intro Q0 hN hret hret'
 have hC := Cx.start w
 refine WCs (fun K1 hK2 => ?_)
 refine WCg ?_
 refine WL.newM hC (fun b => .pointer (some ⟨b, 0, none⟩)) (.cells #[.int .u32 a.v.vip, .int .i64 a.v.proto, .int .i64 a.v.port, .slice a.a a.v.ends.length a.c] 52) 2 (fun _ => by kernel_rfl) (fun g3 w4 hb7 hF5 hC6 => ?_)
 refine WL.newM hC6 (fun b => .pointer (some ⟨b, 0, none⟩)) (.cells #[.int .u32 b.v.vip, .int .i64 b.v.proto, .int .i64 b.v.port, .slice b.a b.v.ends.length b.c] 52) 3 (fun _ => by kernel_rfl) (fun g8 w9 hb12 hF10 hC11 => ?_)
 refine WLr 1 [(4, .int .i64 0)] (fun _ => by kernel_rfl) (WLd rfl (QXn (hK2 _ _ ?_)))
 refine WCs (fun K13 hK14 => ?_)
 refine WC.drawC hC11 [] (by kernel_rfl) (fun w15 hF16 hC17 hS18 => ?_)
 refine WDp (NPt hN) 0 5 (.pointer (some ⟨g3, 0, none⟩)) (by kernel_rfl) (fun _ => by kernel_rfl) hS18 ?_
 refine WDp (NPt hN) 2 7 (.pointer (some ⟨g8, 0, none⟩)) (by kernel_rfl) (fun _ => by kernel_rfl) hS18 ?_
 refine WDp (NPt hN) 5 10 (.pointer (some ⟨g3, 1, none⟩)) (by kernel_rfl) (fun _ => by kernel_rfl) hS18 ?_
 refine WDp (NPt hN) 7 12 (.pointer (some ⟨g8, 1, none⟩)) (by kernel_rfl) (fun _ => by kernel_rfl) hS18 ?_
 refine WDp (NPt hN) 10 15 (.pointer (some ⟨g3, 2, none⟩)) (by kernel_rfl) (fun _ => by kernel_rfl) hS18 ?_
 refine WDp (NPt hN) 12 17 (.pointer (some ⟨g8, 2, none⟩)) (by kernel_rfl) (fun _ => by kernel_rfl) hS18 ?_
 refine WDl (NPt hN) 1 41 (.pointer (some ⟨g3, 0, none⟩)) (.int .u32 a.v.vip) 6 (by kernel_rfl) (by kernel_rfl) (fun _ hS_ => run_ld (Fr.has hS_ (hC17.get 0 rfl) (by simp)) rfl) hS18 ?_
 refine WDl (NPt hN) 3 41 (.pointer (some ⟨g8, 0, none⟩)) (.int .u32 b.v.vip) 8 (by kernel_rfl) (by kernel_rfl) (fun _ hS_ => run_ld (Fr.has hS_ (hC17.get 1 rfl) (by simp)) rfl) hS18 ?_
 refine WDl (NPt hN) 6 3 (.pointer (some ⟨g3, 1, none⟩)) (.int .i64 a.v.proto) 11 (by kernel_rfl) (by kernel_rfl) (fun _ hS_ => run_ld (Fr.has hS_ (hC17.get 0 rfl) (by simp)) rfl) hS18 ?_
 refine WDl (NPt hN) 8 3 (.pointer (some ⟨g8, 1, none⟩)) (.int .i64 b.v.proto) 13 (by kernel_rfl) (by kernel_rfl) (fun _ hS_ => run_ld (Fr.has hS_ (hC17.get 1 rfl) (by simp)) rfl) hS18 ?_
 refine WDl (NPt hN) 11 3 (.pointer (some ⟨g3, 2, none⟩)) (.int .i64 a.v.port) 16 (by kernel_rfl) (by kernel_rfl) (fun _ hS_ => run_ld (Fr.has hS_ (hC17.get 0 rfl) (by simp)) rfl) hS18 ?_
 refine WDl (NPt hN) 13 3 (.pointer (some ⟨g8, 2, none⟩)) (.int .i64 b.v.port) 18 (by kernel_rfl) (by kernel_rfl) (fun _ hS_ => run_ld (Fr.has hS_ (hC17.get 1 rfl) (by simp)) rfl) hS18 ?_
 refine WD.call 4 (by kernel_rfl) rfl rfl rfl rfl rfl (by kernel_rfl) (compare_api_Addr a.v.vip b.v.vip w15) ?_
 rintro _ w20 ⟨rfl, hF19⟩
 have hS22 := hS18.trans hF19 (by simp)
 refine ⟨_, rfl, hS22, ?_⟩
 have hC21 := hC17.call hF19
 refine WD.call 9 (by kernel_rfl) rfl rfl rfl rfl rfl (by kernel_rfl) (compare_int a.v.proto b.v.proto w20) ?_
 rintro _ w24 ⟨rfl, hF23⟩
 have hS26 := hS22.trans hF23 (by simp)
 refine ⟨_, rfl, hS26, ?_⟩
 have hC25 := hC21.call hF23
 refine WD.call 14 (by kernel_rfl) rfl rfl rfl rfl rfl (by kernel_rfl) (compare_int a.v.port b.v.port w24) ?_
 rintro _ w28 ⟨rfl, hF27⟩
 have hS30 := hS26.trans hF27 (by simp)
 refine ⟨_, rfl, hS30, ?_⟩
 have hC29 := hC25.call hF27
 refine WD.new 15 (fun b => .slice (some ⟨b, 0, none⟩) 3 3) (.cells #[.int .i64 (cmpI a.v.vip b.v.vip), .int .i64 (cmpI a.v.proto b.v.proto), .int .i64 (cmpI a.v.port b.v.port)] 3) (by kernel_rfl) rfl rfl rfl rfl rfl (fun _ => by kernel_rfl) (fun g31 w32 hb35 hl36 hF33 ho37 => ?_)
 have hC34 := hC29.callB hF33 hb35 ho37
 have hS38 := hS30.trans hF33 (by simp)
 refine ⟨hS38, ?_⟩
 refine WD.call 16 (by kernel_rfl) rfl rfl rfl rfl rfl (by kernel_rfl) (or_int (some ⟨g31, 0, none⟩) 3 [cmpI a.v.vip b.v.vip, cmpI a.v.proto b.v.proto, cmpI a.v.port b.v.port] w32 (Rd.blk (hC34.get 2 rfl) (encI_len _) rfl) (by simp)) ?_
 rintro _ w40 ⟨rfl, hF39⟩
 have hS42 := hS38.trans hF39 (by simp)
 refine ⟨_, rfl, hS42, ?_⟩
 have hC41 := hC34.call hF39
 refine WDp (NPt hN) 17 4 (.int .i64 (orI [cmpI a.v.vip b.v.vip, cmpI a.v.proto b.v.proto, cmpI a.v.port b.v.port])) (by kernel_rfl) (fun _ => by kernel_rfl) hS42 ?_
 refine WD.done (by kernel_rfl) ?_
 refine QXn (hK14 _ _ ?_)
 refine WC.ret ?_
 refine (hret _ _ _ rfl ?_).1
 exact ⟨rfl, hC41.fr⟩

theorem byDip_ct (a b : SnatV) (w : World) : Calls Tryd.prog 63 #[.agg #[.int .u32 a.dip, .int .u32 a.vip], .agg #[.int .u32 b.dip, .int .u32 b.vip]] w fun e w' => e = .returned (.int .i64 (cmp3 (kN a) (kN b))) ∧ Fr w w' [] := by
 refine enterD (n := 10) Tryd.func63 rfl rfl (Nat.le_of_ble_eq_true rfl) ?_
 intro Q0 hN hret hret'
 have hC := Cx.start w
 refine WCs (fun K1 hK2 => ?_)
 refine WCg ?_
 refine WL.newM hC (fun b => .pointer (some ⟨b, 0, none⟩)) (.cells #[.int .u32 a.dip, .int .u32 a.vip] 54) 2 (fun _ => by kernel_rfl) (fun g3 w4 hb7 hF5 hC6 => ?_)
 refine WL.newM hC6 (fun b => .pointer (some ⟨b, 0, none⟩)) (.cells #[.int .u32 b.dip, .int .u32 b.vip] 54) 3 (fun _ => by kernel_rfl) (fun g8 w9 hb12 hF10 hC11 => ?_)
 refine WLr 1 [(4, .int .i64 0)] (fun _ => by kernel_rfl) (WLd rfl (QXn (hK2 _ _ ?_)))
 refine WCs (fun K13 hK14 => ?_)
 refine WCg (WLr 1 [(5, .pointer (some ⟨g3, 0, none⟩))] (fun _ => by kernel_rfl) ?_)
 refine WL.load 41 (.pointer (some ⟨g3, 0, none⟩)) (.int .u32 a.dip) 6 (by kernel_rfl) (run_ld (hC11.get 0 rfl) rfl) ?_
 refine WLr 1 [(7, .pointer (some ⟨g8, 0, none⟩))] (fun _ => by kernel_rfl) ?_
 refine WL.load 41 (.pointer (some ⟨g8, 0, none⟩)) (.int .u32 b.dip) 8 (by kernel_rfl) (run_ld (hC11.get 1 rfl) rfl) ?_
 refine WLc rfl rfl rfl rfl rfl (by kernel_rfl) (compare_api_Addr a.dip b.dip w9) ?_
 rintro _ w16 ⟨rfl, hF15⟩
 refine ⟨_, rfl, ?_⟩
 have hC17 := hC11.call hF15
 refine WLr 1 [(4, .int .i64 (cmpI a.dip b.dip))] (fun _ => by kernel_rfl) (WLd rfl (QXn (hK14 _ _ ?_)))
 refine WC.ret ?_
 refine (hret _ _ _ rfl ?_).1
 exact ⟨by show _ = Ending.returned (.int .i64 (cmp3 (a.dip, 0, 0) (b.dip, 0, 0))); rw [cmp3_one]; rfl, hC17.fr⟩

theorem byAddr_ct (a b : Int) (w : World) : Calls Tryd.prog 54 #[.int .u32 a, .int .u32 b] w fun e w' => e = .returned (.int .i64 (cmp3 (kA a) (kA b))) ∧ Fr w w' [] := by
  rw [show cmp3 (kA a) (kA b) = cmpI a b from cmp3_one a b]
  exact compare_api_Addr a b w
theorem BSFS (A : Option Addr) (c : Nat) (xs : List Svc) (l : Svc) (w : World) (hr : Rd w 4 cellsS A xs) (hs : sortK kS xs) (hm : xs.length < 2 ^ 40) : Calls Tryd.prog 60 #[.slice A xs.length c, .agg #[.int .u32 l.v.vip, .int .i64 l.v.proto, .int .i64 l.v.port, .slice l.a l.v.ends.length l.c], .func (.func 30) #[] #[]] w fun e w' => e = .returned (.tuple #[.int .i64 (rankK kS (kS l) xs : Int), .bool (hasK kS (kS l) xs)]) ∧ Fr w w' [] := by
 refine enterD (n := 49) Tryd.func60 rfl rfl (Nat.le_of_ble_eq_true rfl) ?_
 intro Q0 hN hret hret'
 have hC := Cx.start w
 refine WCs (fun K1 hK2 => ?_)
 refine WCg ?_
 refine WL.newM hC (fun b => .pointer (some ⟨b, 0, none⟩)) (.cells #[.int .u32 l.v.vip, .int .i64 l.v.proto, .int .i64 l.v.port, .slice l.a l.v.ends.length l.c] 52) 4 (fun _ => by kernel_rfl) (fun g3 w4 hb7 hF5 hC6 => ?_)
 refine WLr 2 [(7, .bool false), (6, .int .i64 0)] (fun _ => by kernel_rfl) (WLd rfl (QXn (hK2 _ _ ?_)))
 refine WCs (fun K8 hK9 => ?_)
 refine WCg (WLr 3 [(8, .int .i64 (xs.length : Int)), (13, .int .i64 (xs.length : Int)), (12, .slice A xs.length c)] (fun _ => by kernel_rfl) (WLd rfl (QXn (hK9 _ _ ?_))))
 refine WCs (fun K10 hK11 => ?_)
 refine WCg (WLr 3 [(10, .int .i64 (xs.length : Int)), (9, .int .i64 0), (14, .int .i64 (xs.length : Int))] (fun _ => by kernel_rfl) (WLd rfl (QXn (hK11 _ _ ?_))))
 refine WCs (fun K12 hK13 => ?_)
 refine WC.block ?_
 refine WC.loop (fun m_ E_ w_ => ∃ (i j : Nat), m_ = j - i ∧ E_ = [(0, .slice A xs.length c), (1, .agg #[.int .u32 l.v.vip, .int .i64 l.v.proto, .int .i64 l.v.port, .slice l.a l.v.ends.length l.c]), (2, .func (.func 30) #[] #[]), (4, .pointer (some ⟨g3, 0, none⟩)), (6, .int .i64 0), (7, .bool false), (8, .int .i64 (xs.length : Int)), (9, .int .i64 (i : Int)), (10, .int .i64 (j : Int)), (12, .slice A xs.length c), (13, .int .i64 (xs.length : Int)), (14, .int .i64 (xs.length : Int))] ∧ Cx w [] w_ [(g3, .cells #[.int .u32 l.v.vip, .int .i64 l.v.proto, .int .i64 l.v.port, .slice l.a l.v.ends.length l.c] 52)] [] ∧ (i ≤ j ∧ j ≤ xs.length ∧ (∀ q y, q < i → xs[q]? = some y → lt3 (kS y) (kS l) = true) ∧ (∀ q y, j ≤ q → xs[q]? = some y → lt3 (kS y) (kS l) = false))) ⟨_, _, ⟨0, xs.length, rfl, rfl, hC6, Nat.zero_le _, Nat.le_refl _, fun q y hq => by omega, fun q y hq hy => by have := (List.getElem?_eq_some_iff.1 hy).1; omega⟩, sub_of ⟨rfl, rfl, rfl, rfl, rfl, rfl, rfl, rfl, rfl, rfl, rfl, rfl, trivial⟩⟩ (fun m17 E_ w18 K14 hK15 hI16 => ?_)
 obtain ⟨i, j, rfl, rfl, hC19, hij, hj, hlo, hhi⟩ := hI16
 refine WCs (fun K20 hK21 => ?_)
 refine WCs (fun K22 hK23 => ?_)
 refine WCg (WLr 3 [(17, .bool (decide ((i : Int) < (j : Int)))), (16, .int .i64 (j : Int)), (15, .int .i64 (i : Int))] (fun _ => by kernel_rfl) (WLd rfl (QXn (hK23 _ _ ?_))))
 refine WCa 17 (decide ((i : Int) < (j : Int))) rfl (fun t24b => ?_) (fun t24b => ?_)
 ·
  have t24 : (i : Int) < (j : Int) := by have q_ := of_decide_eq_true t24b; omega
  refine WCt rfl ?_
  refine WC.skip ?_
  refine QXn (hK21 _ _ ?_)
  refine WC.block ?_
  refine WCs (fun K25 hK26 => ?_)
  refine WCg (WLr 3 [(20, .int .i64 (IntKind.i64.wrap ((i : Int) + (j : Int)))), (19, .int .i64 (j : Int)), (18, .int .i64 (i : Int))] (fun _ => by kernel_rfl) ?_)
  refine WLt (show (.int .i64 (IntKind.i64.wrap ((i : Int) + (j : Int))) : Value) = .int .i64 ((i : Int) + (j : Int)) from by rw [wrap_in_i64 ((i : Int) + (j : Int)) (by omega) (by omega)]) ?_
  refine WLr 1 [(21, .int .u64 (IntKind.u64.wrap ((i : Int) + (j : Int))))] (fun _ => by kernel_rfl) ?_
  refine WLt (show (.int .u64 (IntKind.u64.wrap ((i : Int) + (j : Int))) : Value) = .int .u64 ((i : Int) + (j : Int)) from by rw [wrap_in_u64 ((i : Int) + (j : Int)) (by omega) (by omega)]) ?_
  refine WLr 1 [(22, .int .u64 (((i : Int) + (j : Int)).fdiv (2 ^ 1)))] (fun _ => by kernel_rfl) ?_
  refine WLt (show (.int .u64 (((i : Int) + (j : Int)).fdiv (2 ^ 1)) : Value) = .int .u64 (((i : Int) + (j : Int)) / 2) from by rw [Int.fdiv_eq_ediv_of_nonneg ((i : Int) + (j : Int)) (by decide)]; rfl) ?_
  refine WLr 1 [(23, .int .i64 (IntKind.i64.wrap (((i : Int) + (j : Int)) / 2)))] (fun _ => by kernel_rfl) ?_
  refine WLt (show (.int .i64 (IntKind.i64.wrap (((i : Int) + (j : Int)) / 2)) : Value) = .int .i64 (((i + j) / 2 : Nat) : Int) from by rw [wrap_in_i64 _ (by omega) (by omega)]; congr 1) ?_
  refine WLr 1 [(11, .int .i64 (((i + j) / 2 : Nat) : Int))] (fun _ => by kernel_rfl) (WLd rfl (QXn (hK26 _ _ ?_)))
  refine WCs (fun K27 hK28 => ?_)
  refine WC.drawC hC19 [] (by kernel_rfl) (fun w29 hF30 hC31 hS32 => ?_)
  refine WDp (NPt (NPb (NPt (NPb (NPt hN))))) 0 24 (.func (.func 30) #[] #[]) (by kernel_rfl) (fun _ => by kernel_rfl) hS32 ?_
  refine WDp (NPt (NPb (NPt (NPb (NPt hN))))) 1 25 (.slice A xs.length c) (by kernel_rfl) (fun _ => by kernel_rfl) hS32 ?_
  refine WDp (NPt (NPb (NPt (NPb (NPt hN))))) 2 26 (.int .i64 (((i + j) / 2 : Nat) : Int)) (by kernel_rfl) (fun _ => by kernel_rfl) hS32 ?_
  obtain ⟨e33, he34⟩ := get_some (xs := xs) (i := (((i + j) / 2 : Nat) : Int).toNat) (by omega)
  obtain ⟨b35, o37, hA36, hc38⟩ := hr.at_ _ _ he34
  refine WDi (NPt (NPb (NPt (NPb (NPt hN))))) 3 A xs.length c 27 .i64 (((i + j) / 2 : Nat) : Int) b35 o37 ((((i + j) / 2 : Nat) : Int).toNat) 4 (by kernel_rfl) (by kernel_rfl) hA36 (by omega) (by omega) (o37 + ((((i + j) / 2 : Nat) : Int).toNat) * 4) (by first | (simp; done) | omega) hS32 ?_
  refine WDl (NPt (NPb (NPt (NPb (NPt hN))))) 4 52 (.pointer (some ⟨b35, o37 + ((((i + j) / 2 : Nat) : Int).toNat) * 4, none⟩)) (.agg #[.int .u32 e33.v.vip, .int .i64 e33.v.proto, .int .i64 e33.v.port, .slice e33.a e33.v.ends.length e33.c]) 28 (by kernel_rfl) (by kernel_rfl) (fun _ hS_ => run_rdN (l := [.int .u32 e33.v.vip, .int .i64 e33.v.proto, .int .i64 e33.v.port, .slice e33.a e33.v.ends.length e33.c]) rfl rfl (fun j u hu => by have hq_ := Fr.cell hS_ (hC31.fr.cell (hc38 j u hu) (by simp)) (by simp); simpa [Nat.add_assoc] using hq_)) hS32 ?_
  refine WDl (NPt (NPb (NPt (NPb (NPt hN))))) 5 52 (.pointer (some ⟨g3, 0, none⟩)) (.agg #[.int .u32 l.v.vip, .int .i64 l.v.proto, .int .i64 l.v.port, .slice l.a l.v.ends.length l.c]) 29 (by kernel_rfl) (by kernel_rfl) (fun _ hS_ => run_ld (Fr.has hS_ (hC31.get 0 rfl) (by simp)) rfl) hS32 ?_
  refine WD.call 6 (by kernel_rfl) rfl rfl rfl rfl rfl (by kernel_rfl) (byName_ct e33 l w29) ?_
  rintro _ w40 ⟨rfl, hF39⟩
  have hS42 := hS32.trans hF39 (by simp)
  refine ⟨_, rfl, hS42, ?_⟩
  have hC41 := hC31.call hF39
  refine WDp (NPt (NPb (NPt (NPb (NPt hN))))) 7 31 (.bool (decide ((cmp3 (kS e33) (kS l)) < 0))) (by kernel_rfl) (fun _ => by kernel_rfl) hS42 ?_
  refine WD.done (by kernel_rfl) ?_
  refine QXn (hK28 _ _ ?_)
  refine WCa 31 (decide ((cmp3 (kS e33) (kS l)) < 0)) rfl (fun t43b => ?_) (fun t43b => ?_)
  ·
   have t43 : (cmp3 (kS e33) (kS l)) < 0 := by have q_ := of_decide_eq_true t43b; omega
   refine WCt rfl ?_
   refine WCg (WLr 2 [(33, .int .i64 (IntKind.i64.wrap ((((i + j) / 2 : Nat) : Int) + 1))), (32, .int .i64 (((i + j) / 2 : Nat) : Int))] (fun _ => by kernel_rfl) ?_)
   refine WLt (show (.int .i64 (IntKind.i64.wrap ((((i + j) / 2 : Nat) : Int) + 1)) : Value) = .int .i64 ((((i + j) / 2 : Nat) : Int) + 1) from by rw [wrap_in_i64 ((((i + j) / 2 : Nat) : Int) + 1) (by omega) (by omega)]) ?_
   refine WLr 1 [(9, .int .i64 ((((i + j) / 2 : Nat) : Int) + 1))] (fun _ => by kernel_rfl) ?_
   refine WLd rfl ?_
   refine QXb ?_
   refine QXn ?_
   have hC44 := hC41.pick [0] [] rfl rfl
   refine fun a_ ha_ => hK15 _ _ _ ?_ ⟨((i + j) / 2) + 1, j, rfl, rfl, hC44, by omega, by omega, bsK_lo hs he34 (cmp3_lt.1 t43), hhi⟩ a_ (ha_.weaken (sub_of ⟨rfl, rfl, rfl, rfl, rfl, rfl, rfl, rfl, rfl, rfl, rfl, rfl, trivial⟩))
   omega
  ·
   have t43 : (0 : Int) ≤ (cmp3 (kS e33) (kS l)) := by have q_ := of_decide_eq_false t43b; omega
   refine WCf rfl ?_
   refine WCg (WLr 2 [(10, .int .i64 (((i + j) / 2 : Nat) : Int)), (34, .int .i64 (((i + j) / 2 : Nat) : Int))] (fun _ => by kernel_rfl) ?_)
   refine WLd rfl ?_
   refine QXb ?_
   refine QXn ?_
   have hC45 := hC41.pick [0] [] rfl rfl
   refine fun a_ ha_ => hK15 _ _ _ ?_ ⟨i, (((i + j) / 2 : Nat) : Int).toNat, rfl, rfl, hC45, by omega, by omega, hlo, bsK_hi hs he34 (cmp3_not (by omega))⟩ a_ (ha_.weaken (sub_of ⟨rfl, rfl, rfl, rfl, rfl, rfl, rfl, rfl, rfl, rfl, rfl, rfl, trivial⟩))
   omega
 ·
  have t24 : (j : Int) ≤ (i : Int) := by have q_ := of_decide_eq_false t24b; omega
  refine WCf rfl ?_
  refine WC.exit ?_
  refine QXe ?_
  refine QXe ?_
  refine QX.block_hit ?_
  refine QXn (hK13 _ _ ?_)
  refine WCs (fun K46 hK47 => ?_)
  refine WC.drawC hC19 [] (by kernel_rfl) (fun w48 hF49 hC50 hS51 => ?_)
  refine WDp (NPt hN) 0 35 (.int .i64 (i : Int)) (by kernel_rfl) (fun _ => by kernel_rfl) hS51 ?_
  refine WDp (NPt hN) 1 36 (.int .i64 (i : Int)) (by kernel_rfl) (fun _ => by kernel_rfl) hS51 ?_
  refine WDp (NPt hN) 2 37 (.int .i64 (xs.length : Int)) (by kernel_rfl) (fun _ => by kernel_rfl) hS51 ?_
  refine WDp (NPt hN) 3 38 (.bool (decide ((i : Int) < (xs.length : Int)))) (by kernel_rfl) (fun _ => by kernel_rfl) hS51 ?_
  refine WDp (NPt hN) 4 39 (.bool (decide ((i : Int) < (xs.length : Int)))) (by kernel_rfl) (fun _ => by kernel_rfl) hS51 ?_
  refine WDa 39 (decide ((i : Int) < (xs.length : Int))) rfl (fun t52b => ?_) (fun t52b => ?_)
  ·
   have t52 : (i : Int) < (xs.length : Int) := by have q_ := of_decide_eq_true t52b; omega
   refine WDp (NPt hN) 5 40 (.func (.func 30) #[] #[]) (by kernel_rfl) (fun _ => by kernel_rfl) hS51 ?_
   refine WDp (NPt hN) 6 41 (.slice A xs.length c) (by kernel_rfl) (fun _ => by kernel_rfl) hS51 ?_
   refine WDp (NPt hN) 7 42 (.int .i64 (i : Int)) (by kernel_rfl) (fun _ => by kernel_rfl) hS51 ?_
   obtain ⟨e53, he54⟩ := get_some (xs := xs) (i := i) (by omega)
   obtain ⟨b55, o57, hA56, hc58⟩ := hr.at_ _ _ he54
   refine WDi (NPt hN) 8 A xs.length c 43 .i64 (i : Int) b55 o57 i 4 (by kernel_rfl) (by kernel_rfl) hA56 (by omega) (by omega) (o57 + i * 4) (by first | (simp; done) | omega) hS51 ?_
   refine WDl (NPt hN) 9 52 (.pointer (some ⟨b55, o57 + i * 4, none⟩)) (.agg #[.int .u32 e53.v.vip, .int .i64 e53.v.proto, .int .i64 e53.v.port, .slice e53.a e53.v.ends.length e53.c]) 44 (by kernel_rfl) (by kernel_rfl) (fun _ hS_ => run_rdN (l := [.int .u32 e53.v.vip, .int .i64 e53.v.proto, .int .i64 e53.v.port, .slice e53.a e53.v.ends.length e53.c]) rfl rfl (fun j u hu => by have hq_ := Fr.cell hS_ (hC50.fr.cell (hc58 j u hu) (by simp)) (by simp); simpa [Nat.add_assoc] using hq_)) hS51 ?_
   refine WDl (NPt hN) 10 52 (.pointer (some ⟨g3, 0, none⟩)) (.agg #[.int .u32 l.v.vip, .int .i64 l.v.proto, .int .i64 l.v.port, .slice l.a l.v.ends.length l.c]) 45 (by kernel_rfl) (by kernel_rfl) (fun _ hS_ => run_ld (Fr.has hS_ (hC50.get 0 rfl) (by simp)) rfl) hS51 ?_
   refine WD.call 11 (by kernel_rfl) rfl rfl rfl rfl rfl (by kernel_rfl) (byName_ct e53 l w48) ?_
   rintro _ w60 ⟨rfl, hF59⟩
   have hS62 := hS51.trans hF59 (by simp)
   refine ⟨_, rfl, hS62, ?_⟩
   have hC61 := hC50.call hF59
   refine WDp (NPt hN) 12 47 (.bool ((cmp3 (kS e53) (kS l)) == 0)) (by kernel_rfl) (fun _ => by kernel_rfl) hS62 ?_
   refine WDp (NPt hN) 13 48 (.bool ((cmp3 (kS e53) (kS l)) == 0)) (by kernel_rfl) (fun _ => by kernel_rfl) hS62 ?_
   refine WDp (NPt hN) 14 6 (.int .i64 (i : Int)) (by kernel_rfl) (fun _ => by kernel_rfl) hS62 ?_
   refine WDp (NPt hN) 15 7 (.bool ((cmp3 (kS e53) (kS l)) == 0)) (by kernel_rfl) (fun _ => by kernel_rfl) hS62 ?_
   refine WD.done (by kernel_rfl) ?_
   refine QXn (hK47 _ _ ?_)
   refine WC.ret ?_
   refine (hret _ _ _ rfl ?_).1
   clear hN hret hret' hK47 hK23 hK21 hK13 hK11 hK9 hK2
   have e_ : i = j := by omega
   subst e_
   have hr_ := rank_of hj hlo hhi
   exact ⟨by rw [hr_]; exact congrArg (fun b_ => Ending.returned (.tuple #[.int .i64 (i : Int), .bool b_])) (by rw [has_at hhi hlo hs he54]), hC61.fr⟩
  ·
   have t52 : (xs.length : Int) ≤ (i : Int) := by have q_ := of_decide_eq_false t52b; omega
   refine WDp (NPt hN) 5 40 (undef) (by kernel_rfl) (fun _ => by kernel_rfl) hS51 ?_
   refine WDp (NPt hN) 6 41 (undef) (by kernel_rfl) (fun _ => by kernel_rfl) hS51 ?_
   refine WDp (NPt hN) 7 42 (undef) (by kernel_rfl) (fun _ => by kernel_rfl) hS51 ?_
   refine WDp (NPt hN) 8 43 (undef) (by kernel_rfl) (fun _ => by kernel_rfl) hS51 ?_
   refine WDp (NPt hN) 9 44 (undef) (by kernel_rfl) (fun _ => by kernel_rfl) hS51 ?_
   refine WDp (NPt hN) 10 45 (undef) (by kernel_rfl) (fun _ => by kernel_rfl) hS51 ?_
   refine WDp (NPt hN) 11 46 (undef) (by kernel_rfl) (fun _ => by kernel_rfl) hS51 ?_
   refine WDp (NPt hN) 12 47 (undef) (by kernel_rfl) (fun _ => by kernel_rfl) hS51 ?_
   refine WDp (NPt hN) 13 48 (.bool false) (by kernel_rfl) (fun _ => by kernel_rfl) hS51 ?_
   refine WDp (NPt hN) 14 6 (.int .i64 (i : Int)) (by kernel_rfl) (fun _ => by kernel_rfl) hS51 ?_
   refine WDp (NPt hN) 15 7 (.bool false) (by kernel_rfl) (fun _ => by kernel_rfl) hS51 ?_
   refine WD.done (by kernel_rfl) ?_
   refine QXn (hK47 _ _ ?_)
   refine WC.ret ?_
   refine (hret _ _ _ rfl ?_).1
   clear hN hret hret' hK47 hK23 hK21 hK13 hK11 hK9 hK2
   have e_ : i = j := by omega
   subst e_
   have hr_ := rank_of hj hlo hhi
   exact ⟨by rw [hr_]; exact congrArg (fun b_ => Ending.returned (.tuple #[.int .i64 (i : Int), .bool b_])) (by rw [has_end hlo (by omega)]), hC50.fr⟩

theorem BSFS_n (A : Option Addr) (n c : Nat) (xs : List Svc) (l : Svc) (w : World) (hr : Rd w 4 cellsS A xs) (hn : xs.length = n) (hs : sortK kS xs) (hm : n < 2 ^ 40) : Calls Tryd.prog 60 #[.slice A n c, .agg #[.int .u32 l.v.vip, .int .i64 l.v.proto, .int .i64 l.v.port, .slice l.a l.v.ends.length l.c], .func (.func 30) #[] #[]] w fun e w' => e = .returned (.tuple #[.int .i64 (rankK kS (kS l) xs : Int), .bool (hasK kS (kS l) xs)]) ∧ Fr w w' [] := by subst hn; exact BSFS A c xs l w hr hs hm
theorem InsLtS (g b c n i : Nat) (L : List Value) (x : Svc) (w : World) (hg : w.heap[g]? = some (.cells L.toArray 52 (0, 0))) (hb : w.heap[b]? = some (.cells #[.int .u32 x.v.vip, .int .i64 x.v.proto, .int .i64 x.v.port, .slice x.a x.v.ends.length x.c] 52 (0, 0))) (hne : b ≠ g) (hi : i < n) (hnc : n ≤ c) (hL : L.length = c * 4) (hcm : c ≤ maxLen) (h1 : (L.take (n * 4)).all Value.oneCell' = true) (hlim : n < 2 ^ 40) : Calls Tryd.prog 77 #[.slice (some ⟨g, 0, none⟩) n c, .int .i64 (i : Int), .slice (some ⟨b, 0, none⟩) 1 1] w fun e w' => ∃ v, e = .returned v ∧ Fr w w' [g] ∧ w'.ownsRow 0 52 4 v (n + 1) (L.take (i * 4) ++ [.int .u32 x.v.vip, .int .i64 x.v.proto, .int .i64 x.v.port, .slice x.a x.v.ends.length x.c] ++ (L.drop (i * 4)).take ((n - i) * 4)) ∧ (∀ y ∈ blk v, y = g ∨ w.heap.size ≤ y) := by
 refine enterD (n := 95) Tryd.func77 rfl rfl (Nat.le_of_ble_eq_true rfl) ?_
 intro Q0 hN hret hret'
 have hC := Cx.startM hg
 refine WCs (fun K1 hK2 => ?_)
 refine WCg (WLr 1 [(6, .slice none 0 0)] (fun _ => by kernel_rfl) (WLd rfl (QXn (hK2 _ _ ?_))))
 refine WCs (fun K3 hK4 => ?_)
 refine WCg (WLr 2 [(11, .int .i64 (i : Int)), (10, .slice (some ⟨g, 0, none⟩) n c)] (fun _ => by kernel_rfl) ?_)
 have hb5 : n ≤ c := by omega
 refine WL.slc 26 52 4 (some ⟨g, 0, none⟩) (some ⟨g, i * 4, none⟩) n c i n (n - i) (c - i) (some (.int .i64 (i : Int))) none 12 (by kernel_rfl) (by kernel_rfl) (bnd.yes (by omega)) bnd.no (by omega) hb5 (slcAt_blk (by omega) (by simp)) (by first | rfl | omega) (by first | rfl | omega) ?_
 refine WLd rfl (QXn (hK4 _ _ ?_))
 refine WCs (fun K6 hK7 => ?_)
 refine WCg (WLr 3 [(7, .int .i64 1), (14, .int .i64 1), (13, .slice (some ⟨b, 0, none⟩) 1 1)] (fun _ => by kernel_rfl) (WLd rfl (QXn (hK7 _ _ ?_))))
 refine WCs (fun K8 hK9 => ?_)
 refine WCs (fun K10 hK11 => ?_)
 refine WCg (WLr 2 [(16, .bool false), (15, .int .i64 1)] (fun _ => by kernel_rfl) (WLd rfl (QXn (hK11 _ _ ?_))))
 refine WCf rfl (WC.skip (QXn (hK9 _ _ ?_)))
 refine WCs (fun K12 hK13 => ?_)
 refine WCg (WLr 3 [(8, .int .i64 (n : Int)), (19, .int .i64 (n : Int)), (18, .slice (some ⟨g, 0, none⟩) n c)] (fun _ => by kernel_rfl) (WLd rfl (QXn (hK13 _ _ ?_))))
 refine WCs (fun K14 hK15 => ?_)
 refine WCs (fun K16 hK17 => ?_)
 refine WCg (WLr 3 [(22, .bool ((i : Int) == (n : Int))), (21, .int .i64 (n : Int)), (20, .int .i64 (i : Int))] (fun _ => by kernel_rfl) (WLd rfl (QXn (hK17 _ _ ?_))))
 refine WC.know 22 (.bool ((i : Int) == (n : Int))) (.bool false) rfl (congrArg Value.bool (by simp; omega)) ?_
 refine WCf rfl (WC.skip (QXn (hK15 _ _ ?_)))
 refine WCs (fun K18 hK19 => ?_)
 refine WCs (fun K20 hK21 => ?_)
 refine WCg (WLr 3 [(28, .int .i64 (IntKind.i64.wrap ((n : Int) + 1))), (27, .int .i64 1), (26, .int .i64 (n : Int))] (fun _ => by kernel_rfl) ?_)
 refine WLt (show (.int .i64 (IntKind.i64.wrap ((n : Int) + 1)) : Value) = .int .i64 ((n : Int) + 1) from by rw [wrap_in_i64 ((n : Int) + 1) (by omega) (by omega)]) ?_
 refine WLr 3 [(31, .bool (decide (((n : Int) + 1) > (c : Int)))), (30, .int .i64 (c : Int)), (29, .slice (some ⟨g, 0, none⟩) n c)] (fun _ => by kernel_rfl) (WLd rfl (QXn (hK21 _ _ ?_)))
 refine WCa 31 (decide (((n : Int) + 1) > (c : Int))) rfl (fun t22b => ?_) (fun t22b => ?_)
 ·
  have t22 : (c : Int) < ((n : Int) + 1) := by have q_ := of_decide_eq_true t22b; omega
  refine WCt rfl ?_
  refine WCs (fun K23 hK24 => ?_)
  refine WCg (WLr 2 [(33, .int .i64 (i : Int)), (32, .slice (some ⟨g, 0, none⟩) n c)] (fun _ => by kernel_rfl) ?_)
  have hb25 : i ≤ c := by omega
  refine WL.slc 26 52 4 (some ⟨g, 0, none⟩) (some ⟨g, 0, none⟩) n c 0 i i c none (some (.int .i64 (i : Int))) 34 (by kernel_rfl) (by kernel_rfl) bnd.no (bnd.yes (by omega)) (by omega) hb25 (slcAt_pre _ _ _) (by first | rfl | omega) (by first | rfl | omega) ?_
  refine WLr 3 [(37, .int .i64 (IntKind.i64.wrap ((n : Int) + 1))), (36, .int .i64 1), (35, .int .i64 (n : Int))] (fun _ => by kernel_rfl) ?_
  refine WLt (show (.int .i64 (IntKind.i64.wrap ((n : Int) + 1)) : Value) = .int .i64 ((n : Int) + 1) from by rw [wrap_in_i64 ((n : Int) + 1) (by omega) (by omega)]) ?_
  refine WLr 2 [(39, .int .i64 (IntKind.i64.wrap (((n : Int) + 1) - (i : Int)))), (38, .int .i64 (i : Int))] (fun _ => by kernel_rfl) ?_
  refine WLt (show (.int .i64 (IntKind.i64.wrap (((n : Int) + 1) - (i : Int))) : Value) = .int .i64 (((n : Int) + 1) - (i : Int)) from by rw [wrap_in_i64 (((n : Int) + 1) - (i : Int)) (by omega) (by omega)]) ?_
  obtain ⟨g26, c27, w28, hr29, hge30, hF31, hn32, hcm33, hC34⟩ := appZ_run Tryd.prog hC 26 3 26 52 4 48 i c (n + 1 - i) (z := (.agg #[.int .u32 0, .int .i64 0, .int .i64 0, .slice none 0 0])) (xs := (L.drop 0).take (i * 4)) rfl rfl (by kernel_rfl) (by decide) (by simp; omega) (srcOk.part (hC.get 0 rfl)) (by omega) (by omega) (by omega) (((n : Int) + 1) - (i : Int)) (by omega)
  have hL2l : ((L.drop 0).take (i * 4) ++ (Builtin.zeroCells (.agg #[.int .u32 0, .int .i64 0, .int .i64 0, .slice none 0 0] : Value).cells (n + 1 - i)).toList ++ (Builtin.zeroCells (.agg #[.int .u32 0, .int .i64 0, .int .i64 0, .slice none 0 0] : Value).cells (c27 - (i + (n + 1 - i)))).toList).length = c27 * 4 := by simp [size_zeroCells, Value.cells]; omega
  have hL2t : ((L.drop 0).take (i * 4) ++ (Builtin.zeroCells (.agg #[.int .u32 0, .int .i64 0, .int .i64 0, .slice none 0 0] : Value).cells (n + 1 - i)).toList ++ (Builtin.zeroCells (.agg #[.int .u32 0, .int .i64 0, .int .i64 0, .slice none 0 0] : Value).cells (c27 - (i + (n + 1 - i)))).toList).take (i * 4) = L.take (i * 4) := by rw [List.append_assoc, List.take_append_of_le_length (by simp; omega)]; simp [List.take_take]
  generalize hL2 : ((L.drop 0).take (i * 4) ++ (Builtin.zeroCells (.agg #[.int .u32 0, .int .i64 0, .int .i64 0, .slice none 0 0] : Value).cells (n + 1 - i)).toList ++ (Builtin.zeroCells (.agg #[.int .u32 0, .int .i64 0, .int .i64 0, .slice none 0 0] : Value).cells (c27 - (i + (n + 1 - i)))).toList) = L2 at hC34 hL2l hL2t
  refine WL.sem (Builtin.append_ #[26, 3] 26 #[.slice (some ⟨g, 0, none⟩) i c, .int .i64 (((n : Int) + 1) - (i : Int))]) 40 (.slice (some ⟨g26, 0, none⟩) (i + (n + 1 - i)) c27) (by kernel_rfl) hr29 ?_
  refine WLr 1 [(9, .slice (some ⟨g26, 0, none⟩) (i + (n + 1 - i)) c27)] (fun _ => by kernel_rfl) (WLd rfl (QXn (hK24 _ _ ?_)))
  refine WCs (fun K35 hK36 => ?_)
  refine WCg (WLr 2 [(42, .int .i64 (i : Int)), (41, .slice (some ⟨g26, 0, none⟩) (i + (n + 1 - i)) c27)] (fun _ => by kernel_rfl) ?_)
  have hb37 : i + (n + 1 - i) ≤ c27 := by omega
  refine WL.slc 26 52 4 (some ⟨g26, 0, none⟩) (some ⟨g26, i * 4, none⟩) (i + (n + 1 - i)) c27 i (i + (n + 1 - i)) ((i + (n + 1 - i)) - i) (c27 - i) (some (.int .i64 (i : Int))) none 43 (by kernel_rfl) (by kernel_rfl) (bnd.yes (by omega)) bnd.no (by omega) hb37 (slcAt_blk (by omega) (by simp)) (by first | rfl | omega) (by first | rfl | omega) ?_
  refine WLr 1 [(44, .slice (some ⟨b, 0, none⟩) 1 1)] (fun _ => by kernel_rfl) ?_
  obtain ⟨w38, hr39, hF40, hC41⟩ := copy_run Tryd.prog hC34 1 26 26 3 52 4 g26 (i * 4) ((i + (n + 1 - i)) - i) (c27 - i) 1 1 1 (some ⟨b, 0, none⟩) [.int .u32 x.v.vip, .int .i64 x.v.proto, .int .i64 x.v.port, .slice x.a x.v.ends.length x.c] rfl rfl (by show min _ _ = _; omega) rfl (srcOk.blk 1 (hC34.fr.has hb (by simpa using hne))) (by simp; omega) rfl
  refine WL.sem (Builtin.copy_ #[26, 26] 3 #[.slice (some ⟨g26, i * 4, none⟩) ((i + (n + 1 - i)) - i) (c27 - i), .slice (some ⟨b, 0, none⟩) 1 1]) 45 (.int .i64 1) (by kernel_rfl) hr39 ?_
  refine WLd rfl (QXn (hK36 _ _ ?_))
  refine WCs (fun K42 hK43 => ?_)
  refine WC.drawC hC41 [g26] (by kernel_rfl) (fun w44 hF45 hC46 hS47 => ?_)
  refine WDp (NPt (NPt hN)) 0 46 (.slice (some ⟨g26, 0, none⟩) (i + (n + 1 - i)) c27) (by kernel_rfl) (fun _ => by kernel_rfl) hS47 ?_
  refine WDp (NPt (NPt hN)) 1 47 (.int .i64 (i : Int)) (by kernel_rfl) (fun _ => by kernel_rfl) hS47 ?_
  refine WDp (NPt (NPt hN)) 2 48 (.int .i64 1) (by kernel_rfl) (fun _ => by kernel_rfl) hS47 ?_
  refine WDp (NPt (NPt hN)) 3 49 (.int .i64 (IntKind.i64.wrap ((i : Int) + 1))) (by kernel_rfl) (fun _ => by kernel_rfl) hS47 ?_
  refine WD.recast (show (.int .i64 (IntKind.i64.wrap ((i : Int) + 1)) : Value) = .int .i64 ((i : Int) + 1) from by rw [wrap_in_i64 ((i : Int) + 1) (by omega) (by omega)]) ?_
  have hb48 : i + (n + 1 - i) ≤ c27 := by omega
  refine WD.slc (NPt (NPt hN)) 4 26 52 4 (some ⟨g26, 0, none⟩) (some ⟨g26, (i + 1) * 4, none⟩) (i + (n + 1 - i)) c27 (i + 1) (i + (n + 1 - i)) ((i + (n + 1 - i)) - (i + 1)) (c27 - (i + 1)) (some (.int .i64 ((i : Int) + 1))) none 50 (by kernel_rfl) (by kernel_rfl) (by kernel_rfl) (bnd.yes (by omega)) bnd.no (by omega) hb48 (slcAt_blk (by omega) (by simp)) (by first | rfl | omega) (by first | rfl | omega) hS47 ?_
  refine WDp (NPt (NPt hN)) 5 51 (.slice (some ⟨g, 0, none⟩) n c) (by kernel_rfl) (fun _ => by kernel_rfl) hS47 ?_
  refine WDp (NPt (NPt hN)) 6 52 (.int .i64 (i : Int)) (by kernel_rfl) (fun _ => by kernel_rfl) hS47 ?_
  have hb49 : n ≤ c := by omega
  refine WD.slc (NPt (NPt hN)) 7 26 52 4 (some ⟨g, 0, none⟩) (some ⟨g, i * 4, none⟩) n c i n (n - i) (c - i) (some (.int .i64 (i : Int))) none 53 (by kernel_rfl) (by kernel_rfl) (by kernel_rfl) (bnd.yes (by omega)) bnd.no (by omega) hb49 (slcAt_blk (by omega) (by simp)) (by first | rfl | omega) (by first | rfl | omega) hS47 ?_
  obtain ⟨w50, hr51, hF52, hC53⟩ := copy_run Tryd.prog hC46 1 26 26 3 52 4 g26 ((i + 1) * 4) ((i + (n + 1 - i)) - (i + 1)) (c27 - (i + 1)) (n - i) (c - i) (n - i) (some ⟨g, i * 4, none⟩) ((L.drop (i * 4)).take ((n - i) * 4)) rfl rfl (by show min _ _ = _; omega) (by simp; omega) (srcOk.part (hC46.get 0 rfl)) (by simp; omega) (all_part h1 (by omega))
  have hS54 := hS47.trans hF52 (by simp)
  refine WD.sem 8 (Builtin.copy_ #[26, 26] 3 #[.slice (some ⟨g26, (i + 1) * 4, none⟩) ((i + (n + 1 - i)) - (i + 1)) (c27 - (i + 1)), .slice (some ⟨g, i * 4, none⟩) (n - i) (c - i)]) 54 (.int .i64 (((n - i) : Nat) : Int)) (by kernel_rfl) (by kernel_rfl) hr51 hS54 ?_
  refine WD.done (by kernel_rfl) ?_
  refine QXn (hK43 _ _ ?_)
  refine WCs (fun K55 hK56 => ?_)
  refine WCg (WLr 2 [(6, .slice (some ⟨g26, 0, none⟩) (i + (n + 1 - i)) c27), (55, .slice (some ⟨g26, 0, none⟩) (i + (n + 1 - i)) c27)] (fun _ => by kernel_rfl) (WLd rfl (QXn (hK56 _ _ ?_))))
  refine WC.ret ?_
  refine QXr ?_
  refine (hret _ _ _ rfl ?_).1
  clear hN hret hret' hK56 hK43 hK36 hK24 hK21 hK19 hK17 hK15 hK13 hK11 hK9 hK7 hK4 hK2
  refine ⟨_, rfl, hC53.fr, ?_, by intro y hy; simp [shut, blk, Value.ownBlock] at hy; omega⟩
  rw [show i + (n + 1 - i) = n + 1 from by omega]
  exact own_of_blk (Nat.zero_le _) (hC53.get 1 rfl) (by omega) hcm33 (by simp; omega) ((insAz 4 L2 [.int .u32 x.v.vip, .int .i64 x.v.proto, .int .i64 x.v.port, .slice x.a x.v.ends.length x.c] ((L.drop (i * 4)).take ((n - i) * 4)) i n rfl (by simp; omega) (by omega) hi).trans (by rw [hL2t]))
 ·
  have t22 : ((n : Int) + 1) ≤ (c : Int) := by have q_ := of_decide_eq_false t22b; omega
  refine WCf rfl (WC.skip (QXn (hK19 _ _ ?_)))
  refine WCs (fun K57 hK58 => ?_)
  refine WCg (WLr 4 [(59, .int .i64 (IntKind.i64.wrap ((n : Int) + 1))), (58, .int .i64 1), (57, .int .i64 (n : Int)), (56, .slice (some ⟨g, 0, none⟩) n c)] (fun _ => by kernel_rfl) ?_)
  refine WLt (show (.int .i64 (IntKind.i64.wrap ((n : Int) + 1)) : Value) = .int .i64 ((n : Int) + 1) from by rw [wrap_in_i64 ((n : Int) + 1) (by omega) (by omega)]) ?_
  have hb59 : n + 1 ≤ c := by omega
  refine WL.slc 26 52 4 (some ⟨g, 0, none⟩) (some ⟨g, 0, none⟩) n c 0 (n + 1) (n + 1) c none (some (.int .i64 ((n : Int) + 1))) 60 (by kernel_rfl) (by kernel_rfl) bnd.no (bnd.yes (by omega)) (by omega) hb59 (slcAt_pre _ _ _) (by first | rfl | omega) (by first | rfl | omega) ?_
  refine WLr 1 [(0, .slice (some ⟨g, 0, none⟩) (n + 1) c)] (fun _ => by kernel_rfl) (WLd rfl (QXn (hK58 _ _ ?_)))
  refine WCs (fun K60 hK61 => ?_)
  refine WCs (fun K62 hK63 => ?_)
  refine WCg (WLr 5 [(65, .int .i64 (IntKind.i64.wrap ((i : Int) + 1))), (64, .int .i64 1), (63, .int .i64 (i : Int)), (62, .slice (some ⟨g, 0, none⟩) (n + 1) c), (61, .slice (some ⟨b, 0, none⟩) 1 1)] (fun _ => by kernel_rfl) ?_)
  refine WLt (show (.int .i64 (IntKind.i64.wrap ((i : Int) + 1)) : Value) = .int .i64 ((i : Int) + 1) from by rw [wrap_in_i64 ((i : Int) + 1) (by omega) (by omega)]) ?_
  have hb64 : n + 1 ≤ c := by omega
  refine WL.slc 26 52 4 (some ⟨g, 0, none⟩) (some ⟨g, (i + 1) * 4, none⟩) (n + 1) c (i + 1) (n + 1) ((n + 1) - (i + 1)) (c - (i + 1)) (some (.int .i64 ((i : Int) + 1))) none 66 (by kernel_rfl) (by kernel_rfl) (bnd.yes (by omega)) bnd.no (by omega) hb64 (slcAt_blk (by omega) (by simp)) (by first | rfl | omega) (by first | rfl | omega) ?_
  refine WL.ext 92 #[.slice (some ⟨b, 0, none⟩) 1 1, .slice (some ⟨g, (i + 1) * 4, none⟩) ((n + 1) - (i + 1)) (c - (i + 1))] 67 (.bool false) (by kernel_rfl) (run_overlaps (fn := Tryd.f92) (tS := 26) (tR := 4) (e := 52) (sz := 4) rfl (by kernel_rfl) (by kernel_rfl) (by kernel_rfl) (by kernel_rfl) (by kernel_rfl) (hC.fr.has hb (by simpa using hne)) (hC.get 0 rfl) hne (by rw [List.size_toArray]; omega)) ?_
  refine WLr 1 [(68, .bool true)] (fun _ => by kernel_rfl) (WLd rfl (QXn (hK63 _ _ ?_)))
  refine WCt rfl ?_
  refine WCs (fun K65 hK66 => ?_)
  refine WC.drawC hC [g] (by kernel_rfl) (fun w67 hF68 hC69 hS70 => ?_)
  refine WDp (NPt (NPt hN)) 0 69 (.slice (some ⟨g, 0, none⟩) (n + 1) c) (by kernel_rfl) (fun _ => by kernel_rfl) hS70 ?_
  refine WDp (NPt (NPt hN)) 1 70 (.int .i64 (i : Int)) (by kernel_rfl) (fun _ => by kernel_rfl) hS70 ?_
  refine WDp (NPt (NPt hN)) 2 71 (.int .i64 1) (by kernel_rfl) (fun _ => by kernel_rfl) hS70 ?_
  refine WDp (NPt (NPt hN)) 3 72 (.int .i64 (IntKind.i64.wrap ((i : Int) + 1))) (by kernel_rfl) (fun _ => by kernel_rfl) hS70 ?_
  refine WD.recast (show (.int .i64 (IntKind.i64.wrap ((i : Int) + 1)) : Value) = .int .i64 ((i : Int) + 1) from by rw [wrap_in_i64 ((i : Int) + 1) (by omega) (by omega)]) ?_
  have hb71 : n + 1 ≤ c := by omega
  refine WD.slc (NPt (NPt hN)) 4 26 52 4 (some ⟨g, 0, none⟩) (some ⟨g, (i + 1) * 4, none⟩) (n + 1) c (i + 1) (n + 1) ((n + 1) - (i + 1)) (c - (i + 1)) (some (.int .i64 ((i : Int) + 1))) none 73 (by kernel_rfl) (by kernel_rfl) (by kernel_rfl) (bnd.yes (by omega)) bnd.no (by omega) hb71 (slcAt_blk (by omega) (by simp)) (by first | rfl | omega) (by first | rfl | omega) hS70 ?_
  refine WDp (NPt (NPt hN)) 5 74 (.slice (some ⟨g, 0, none⟩) (n + 1) c) (by kernel_rfl) (fun _ => by kernel_rfl) hS70 ?_
  refine WDp (NPt (NPt hN)) 6 75 (.int .i64 (i : Int)) (by kernel_rfl) (fun _ => by kernel_rfl) hS70 ?_
  have hb72 : n + 1 ≤ c := by omega
  refine WD.slc (NPt (NPt hN)) 7 26 52 4 (some ⟨g, 0, none⟩) (some ⟨g, i * 4, none⟩) (n + 1) c i (n + 1) ((n + 1) - i) (c - i) (some (.int .i64 (i : Int))) none 76 (by kernel_rfl) (by kernel_rfl) (by kernel_rfl) (bnd.yes (by omega)) bnd.no (by omega) hb72 (slcAt_blk (by omega) (by simp)) (by first | rfl | omega) (by first | rfl | omega) hS70 ?_
  obtain ⟨w73, hr74, hF75, hC76⟩ := copy_run Tryd.prog hC69 0 26 26 3 52 4 g ((i + 1) * 4) ((n + 1) - (i + 1)) (c - (i + 1)) ((n + 1) - i) (c - i) (n - i) (some ⟨g, i * 4, none⟩) ((L.drop (i * 4)).take ((n - i) * 4)) rfl rfl (by show min _ _ = _; omega) (by simp; omega) (srcOk.part (hC69.get 0 rfl)) (by simp; omega) (all_part h1 (by omega))
  have hS77 := hS70.trans hF75 (by simp)
  refine WD.sem 8 (Builtin.copy_ #[26, 26] 3 #[.slice (some ⟨g, (i + 1) * 4, none⟩) ((n + 1) - (i + 1)) (c - (i + 1)), .slice (some ⟨g, i * 4, none⟩) ((n + 1) - i) (c - i)]) 77 (.int .i64 (((n - i) : Nat) : Int)) (by kernel_rfl) (by kernel_rfl) hr74 hS77 ?_
  refine WD.done (by kernel_rfl) ?_
  refine QXn (hK66 _ _ ?_)
  refine WCs (fun K78 hK79 => ?_)
  refine WCg (WLr 2 [(79, .int .i64 (i : Int)), (78, .slice (some ⟨g, 0, none⟩) (n + 1) c)] (fun _ => by kernel_rfl) ?_)
  have hb80 : n + 1 ≤ c := by omega
  refine WL.slc 26 52 4 (some ⟨g, 0, none⟩) (some ⟨g, i * 4, none⟩) (n + 1) c i (n + 1) ((n + 1) - i) (c - i) (some (.int .i64 (i : Int))) none 80 (by kernel_rfl) (by kernel_rfl) (bnd.yes (by omega)) bnd.no (by omega) hb80 (slcAt_blk (by omega) (by simp)) (by first | rfl | omega) (by first | rfl | omega) ?_
  refine WLr 1 [(81, .slice (some ⟨b, 0, none⟩) 1 1)] (fun _ => by kernel_rfl) ?_
  obtain ⟨w81, hr82, hF83, hC84⟩ := copy_run Tryd.prog hC76 0 26 26 3 52 4 g (i * 4) ((n + 1) - i) (c - i) 1 1 1 (some ⟨b, 0, none⟩) [.int .u32 x.v.vip, .int .i64 x.v.proto, .int .i64 x.v.port, .slice x.a x.v.ends.length x.c] rfl rfl (by show min _ _ = _; omega) rfl (srcOk.blk 1 (hC76.fr.has hb (by simpa using hne))) (by simp; omega) rfl
  refine WL.sem (Builtin.copy_ #[26, 26] 3 #[.slice (some ⟨g, i * 4, none⟩) ((n + 1) - i) (c - i), .slice (some ⟨b, 0, none⟩) 1 1]) 82 (.int .i64 1) (by kernel_rfl) hr82 ?_
  refine WLd rfl (QXn (hK79 _ _ ?_))
  refine WCs (fun K85 hK86 => ?_)
  refine WCg (WLr 2 [(6, .slice (some ⟨g, 0, none⟩) (n + 1) c), (83, .slice (some ⟨g, 0, none⟩) (n + 1) c)] (fun _ => by kernel_rfl) (WLd rfl (QXn (hK86 _ _ ?_))))
  refine WC.ret ?_
  refine QXr ?_
  refine (hret _ _ _ rfl ?_).1
  exact ⟨_, rfl, hC84.fr, own_of_blk (Nat.zero_le _) (hC84.get 0 rfl) (by omega) hcm (by simp; omega) (insBz 4 L [.int .u32 x.v.vip, .int .i64 x.v.proto, .int .i64 x.v.port, .slice x.a x.v.ends.length x.c] ((L.drop (i * 4)).take ((n - i) * 4)) i n rfl (by simp; omega) (by omega) hi), by intro y hy; simp [shut, blk, Value.ownBlock] at hy; omega⟩

theorem InsEqS (A : Option Addr) (b n c : Nat) (xs : List Svc) (x : Svc) (w : World) (ho : w.ownsRow 0 52 4 (.slice A n c) n (xs.flatMap cellsS)) (hb : w.heap[b]? = some (.cells #[.int .u32 x.v.vip, .int .i64 x.v.proto, .int .i64 x.v.port, .slice x.a x.v.ends.length x.c] 52 (0, 0))) (hne : b ∉ blk (.slice A n c)) (hlim : n < 2 ^ 40) : Calls Tryd.prog 77 #[.slice A n c, .int .i64 (n : Int), .slice (some ⟨b, 0, none⟩) 1 1] w fun e w' => ∃ v, e = .returned v ∧ Fr w w' (blk (.slice A n c)) ∧ w'.ownsRow 0 52 4 v (n + 1) ((xs ++ [x]).flatMap cellsS) ∧ (∀ y ∈ blk v, y ∈ blk (.slice A n c) ∨ w.heap.size ≤ y) := by
 refine enterD (n := 95) Tryd.func77 rfl rfl (Nat.le_of_ble_eq_true rfl) ?_
 intro Q0 hN hret hret'
 have hle : n ≤ c := by obtain ⟨A_, c_, h1_, h2_⟩ := own_form ho; simp at h1_; omega
 have hC := Cx.start1 w (own_lt ho)
 refine WCs (fun K1 hK2 => ?_)
 refine WCg (WLr 1 [(6, .slice none 0 0)] (fun _ => by kernel_rfl) (WLd rfl (QXn (hK2 _ _ ?_))))
 refine WCs (fun K3 hK4 => ?_)
 refine WCg (WLr 2 [(11, .int .i64 (n : Int)), (10, .slice A n c)] (fun _ => by kernel_rfl) ?_)
 obtain ⟨A5, hA6⟩ : ∃ A_, slcAt A n c 4 = A_ := ⟨_, rfl⟩
 have hle_ := own_le ho
 have hb7 : n ≤ c := by omega
 refine WL.slc 26 52 4 A A5 n c n n (n - n) (c - n) (some (.int .i64 (n : Int))) none 12 (by kernel_rfl) (by kernel_rfl) (bnd.yes (by omega)) bnd.no (by omega) hb7 hA6 (by first | rfl | omega) (by first | rfl | omega) ?_
 refine WLd rfl (QXn (hK4 _ _ ?_))
 refine WCs (fun K8 hK9 => ?_)
 refine WCg (WLr 3 [(7, .int .i64 1), (14, .int .i64 1), (13, .slice (some ⟨b, 0, none⟩) 1 1)] (fun _ => by kernel_rfl) (WLd rfl (QXn (hK9 _ _ ?_))))
 refine WCs (fun K10 hK11 => ?_)
 refine WCs (fun K12 hK13 => ?_)
 refine WCg (WLr 2 [(16, .bool false), (15, .int .i64 1)] (fun _ => by kernel_rfl) (WLd rfl (QXn (hK13 _ _ ?_))))
 refine WCf rfl (WC.skip (QXn (hK11 _ _ ?_)))
 refine WCs (fun K14 hK15 => ?_)
 refine WCg (WLr 3 [(8, .int .i64 (n : Int)), (19, .int .i64 (n : Int)), (18, .slice A n c)] (fun _ => by kernel_rfl) (WLd rfl (QXn (hK15 _ _ ?_))))
 refine WCs (fun K16 hK17 => ?_)
 refine WCs (fun K18 hK19 => ?_)
 refine WCg (WLr 3 [(22, .bool ((n : Int) == (n : Int))), (21, .int .i64 (n : Int)), (20, .int .i64 (n : Int))] (fun _ => by kernel_rfl) (WLd rfl (QXn (hK19 _ _ ?_))))
 refine WC.know 22 (.bool ((n : Int) == (n : Int))) (.bool true) rfl (congrArg Value.bool (by simp)) ?_
 refine WCt rfl ?_
 refine WCs (fun K20 hK21 => ?_)
 refine WCg (WLr 2 [(24, .slice (some ⟨b, 0, none⟩) 1 1), (23, .slice A n c)] (fun _ => by kernel_rfl) ?_)
 obtain ⟨v22, w23, hr24, ho25, hF26, hC27, hnil28, hsub29⟩ := app_run Tryd.prog hC 0 (v := .slice A n c) rfl 26 26 52 4 48 n 1 1 (some ⟨b, 0, none⟩) rfl ho [.int .u32 x.v.vip, .int .i64 x.v.proto, .int .i64 x.v.port, .slice x.a x.v.ends.length x.c] rfl (srcOk.blk 1 (hC.fr.has hb hne)) rfl (by simp only [maxLen]; omega) (by omega)
 have ho33 := own_snoc (enc := cellsS) (ys := xs) x ho25
 obtain ⟨A30, c31, rfl, hle32⟩ := own_form ho33
 refine WL.sem (Builtin.append_ #[26, 26] 26 #[.slice A n c, .slice (some ⟨b, 0, none⟩) 1 1]) 25 (.slice A30 (n + 1) c31) (by kernel_rfl) hr24 ?_
 refine WLr 1 [(6, .slice A30 (n + 1) c31)] (fun _ => by kernel_rfl) (WLd rfl (QXn (hK21 _ _ ?_)))
 refine WC.ret ?_
 refine QXr ?_
 refine (hret _ _ _ rfl ?_).1
 exact ⟨_, rfl, hC27.fr, by simpa [shut] using ho33, hsub29⟩

theorem InsS_ct (A : Option Addr) (b n c i : Nat) (xs : List Svc) (x : Svc) (w : World) (ho : w.ownsRow 0 52 4 (.slice A n c) n (xs.flatMap cellsS)) (hb : w.heap[b]? = some (.cells #[.int .u32 x.v.vip, .int .i64 x.v.proto, .int .i64 x.v.port, .slice x.a x.v.ends.length x.c] 52 (0, 0))) (hne : b ∉ blk (.slice A n c)) (hi : i ≤ n) (hlim : n < 2 ^ 40) : Calls Tryd.prog 77 #[.slice A n c, .int .i64 (i : Int), .slice (some ⟨b, 0, none⟩) 1 1] w fun e w' => ∃ v, e = .returned v ∧ Fr w w' (blk (.slice A n c)) ∧ w'.ownsRow 0 52 4 v (n + 1) ((xs.take i ++ x :: xs.drop i).flatMap cellsS) ∧ (∀ y ∈ blk v, y ∈ blk (.slice A n c) ∨ w.heap.size ≤ y) := by
  have hcount := own_count cellsS_len (by decide) ho
  by_cases e : i = n
  · subst e
    refine (InsEqS A b i c xs x w ho hb hne hlim).mono fun e w' h => ?_
    rwa [← hcount, List.take_length, List.drop_length, hcount]
  · have hlt : i < n := by omega
    obtain ⟨g, cur, rfl, hg, hh, hnc, hcm, hsz, htk⟩ := own_blkd ho (by omega)
    have hbg : b ≠ g := by simpa [blk, Value.ownBlock] using hne
    have h1 : (cur.toList.take (n * 4)).all Value.oneCell' = true := by rw [htk]; exact flat_oneS cellsS_one _
    refine (InsLtS g b c n i cur.toList x w (by simpa using hh) hb hbg hlt hnc (by simpa using hsz) hcm h1 hlim).mono fun e w' h => ?_
    obtain ⟨v, he, hf, hown, hsub⟩ := h
    refine ⟨v, he, by simpa [blk, Value.ownBlock] using hf, ?_, by simpa [blk, Value.ownBlock] using hsub⟩
    have e1 : cur.toList.take (i * 4) = (xs.take i).flatMap cellsS := by rw [← flat_take cellsS_len, ← htk, List.take_take, Nat.min_eq_left (by omega)]
    have e2 : (cur.toList.drop (i * 4)).take ((n - i) * 4) = (xs.drop i).flatMap cellsS := by rw [← flat_drop cellsS_len, ← htk, List.drop_take]; congr 1; omega
    rw [e1, e2] at hown
    simpa [cellsS] using hown
theorem DelS (A : Option Addr) (n c i : Nat) (xs : List Svc) (w : World) (ho : w.ownsRow 0 52 4 (.slice A n c) n (xs.flatMap cellsS)) (hi : i < n) (hlim : n < 2 ^ 40) : Calls Tryd.prog 76 #[.slice A n c, .int .i64 (i : Int), .int .i64 ((i : Int) + 1)] w fun e w' => e = .returned (.slice A (n - 1) c) ∧ Fr w w' (blk (.slice A n c)) ∧ w'.ownsRow 0 52 4 (.slice A (n - 1) c) (n - 1) ((xs.take i ++ xs.drop (i + 1)).flatMap cellsS) := by
 refine enterD (n := 33) Tryd.func76 rfl rfl (Nat.le_of_ble_eq_true rfl) ?_
 intro Q0 hN hret hret'
 have hC := Cx.start1 w (own_lt ho)
 have hle : n ≤ c := own_le ho
 have hcnt := own_count cellsS_len (by decide) ho
 refine WCs (fun K1 hK2 => ?_)
 refine WCg (WLr 1 [(6, .slice none 0 0)] (fun _ => by kernel_rfl) (WLd rfl (QXn (hK2 _ _ ?_))))
 refine WCs (fun K3 hK4 => ?_)
 refine WCg (WLr 5 [(12, .int .i64 (n : Int)), (11, .slice A n c), (10, .int .i64 ((i : Int) + 1)), (9, .int .i64 (i : Int)), (8, .slice A n c)] (fun _ => by kernel_rfl) ?_)
 have hr5 := fun w_ => run_slc3 (P := Tryd.prog) (w := w_) (t := 26) (e := 52) (sz := 4) (A := A) (nn := n) (c := c) (l := i) (h := i + 1) (m := n) (kl := .i64) (kh := .i64) (km := .i64) (il := (i : Int)) (ih := (i : Int) + 1) (im := (n : Int)) (by kernel_rfl) rfl (by omega) rfl (by omega) (by omega) (by omega)
 refine WL.sem (Instr.sliceAt 26 (.slice A n c) (some (.int .i64 (i : Int))) (some (.int .i64 ((i : Int) + 1))) (some (.int .i64 (n : Int)))) 13 (.slice (slcAt A i n 4) (i + 1 - i) (n - i)) (by kernel_rfl) (hr5 _) ?_
 refine WLd rfl (QXn (hK4 _ _ ?_))
 refine WCs (fun K6 hK7 => ?_)
 refine WCs (fun K8 hK9 => ?_)
 refine WCg (WLr 3 [(16, .bool ((i : Int) == ((i : Int) + 1))), (15, .int .i64 ((i : Int) + 1)), (14, .int .i64 (i : Int))] (fun _ => by kernel_rfl) (WLd rfl (QXn (hK9 _ _ ?_))))
 refine WC.know 16 (.bool ((i : Int) == ((i : Int) + 1))) (.bool false) rfl (congrArg Value.bool (by simp <;> omega)) ?_
 refine WCf rfl (WC.skip (QXn (hK7 _ _ ?_)))
 refine WCs (fun K10 hK11 => ?_)
 refine WCg (WLr 3 [(7, .int .i64 (n : Int)), (19, .int .i64 (n : Int)), (18, .slice A n c)] (fun _ => by kernel_rfl) (WLd rfl (QXn (hK11 _ _ ?_))))
 refine WCs (fun K12 hK13 => ?_)
 refine WC.drawC hC (blk (.slice A n c)) (by kernel_rfl) (fun w14 hF15 hC16 hS17 => ?_)
 have ho18 := own_fr ho hF15 (by simp)
 refine WDp (NPt hN) 0 20 (.slice A n c) (by kernel_rfl) (fun _ => by kernel_rfl) hS17 ?_
 refine WDp (NPt hN) 1 21 (.int .i64 (i : Int)) (by kernel_rfl) (fun _ => by kernel_rfl) hS17 ?_
 have hb19 : i ≤ c := by omega
 refine WD.slc (NPt hN) 2 26 52 4 A A n c 0 i i c none (some (.int .i64 (i : Int))) 22 (by kernel_rfl) (by kernel_rfl) (by kernel_rfl) bnd.no (bnd.yes (by omega)) (by omega) hb19 (slcAt_pre _ _ _) (by first | rfl | omega) (by first | rfl | omega) hS17 ?_
 refine WDp (NPt hN) 3 23 (.slice A n c) (by kernel_rfl) (fun _ => by kernel_rfl) hS17 ?_
 refine WDp (NPt hN) 4 24 (.int .i64 ((i : Int) + 1)) (by kernel_rfl) (fun _ => by kernel_rfl) hS17 ?_
 obtain ⟨A20, hA21⟩ : ∃ A_, slcAt A (i + 1) c 4 = A_ := ⟨_, rfl⟩
 have hb22 : n ≤ c := by omega
 refine WD.slc (NPt hN) 5 26 52 4 A A20 n c (i + 1) n (n - (i + 1)) (c - (i + 1)) (some (.int .i64 ((i : Int) + 1))) none 25 (by kernel_rfl) (by kernel_rfl) (by kernel_rfl) (bnd.yes (by omega)) bnd.no (by omega) hb22 hA21 (by first | rfl | omega) (by first | rfl | omega) hS17 ?_
 obtain ⟨Y23, w24, hr25, ho26, hY27, hF28, hC29⟩ := del_app (P := Tryd.prog) hC16 0 (t := 26) (ty := 26) (e := 52) (sz := 4) (bytes := 48) (i := i) (by kernel_rfl) rfl ho18 (flat_oneS cellsS_one _) hi hA21 (by simp only [maxLen]; omega) (by omega)
 have hS30 := hS17.trans hF28 (fun x_ hx_ => .inl hx_)
 refine WD.sem 6 (Builtin.append_ #[26, 26] 26 #[.slice A i c, .slice A20 (n - (i + 1)) (c - (i + 1))]) 26 (.slice A (n - 1 : Nat) c) (by kernel_rfl) (by kernel_rfl) hr25 hS30 ?_
 refine WDp (NPt hN) 7 0 (.slice A (n - 1 : Nat) c) (by kernel_rfl) (fun _ => by kernel_rfl) hS30 ?_
 refine WD.done (by kernel_rfl) ?_
 refine QXn (hK13 _ _ ?_)
 refine WCs (fun K31 hK32 => ?_)
 refine WCg (WLr 4 [(30, .int .i64 (n : Int)), (29, .int .i64 ((n - 1 : Nat) : Int)), (28, .slice A (n - 1 : Nat) c), (27, .slice A (n - 1 : Nat) c)] (fun _ => by kernel_rfl) ?_)
 obtain ⟨A33, hA34⟩ : ∃ A_, slcAt A (n - 1) c 4 = A_ := ⟨_, rfl⟩
 have hb35 : n ≤ c := by omega
 refine WL.slc 26 52 4 A A33 (n - 1 : Nat) c (n - 1) n (n - (n - 1)) (c - (n - 1)) (some (.int .i64 ((n - 1 : Nat) : Int))) (some (.int .i64 (n : Int))) 31 (by kernel_rfl) (by kernel_rfl) (bnd.yes (by omega)) (bnd.yes (by omega)) (by omega) hb35 hA34 (by first | rfl | omega) (by first | rfl | omega) ?_
 obtain ⟨w36, hr37, hF38, hC39, ho40⟩ := clear_run (P := Tryd.prog) hC29 0 (t := 26) (ty := 0) (e := 52) (sz := 4) (bytes := 48) (nn := n) (i := n - 1) (by kernel_rfl) (by kernel_rfl) rfl ho26 (by omega) hA34
 rw [hY27] at ho40
 refine WL.semN (Builtin.clear_ #[26] 0 #[.slice A33 (n - (n - 1)) (c - (n - 1))]) _ (by kernel_rfl) hr37 ?_
 refine WLd rfl (QXn (hK32 _ _ ?_))
 refine WCs (fun K41 hK42 => ?_)
 refine WCg (WLr 2 [(6, .slice A (n - 1 : Nat) c), (32, .slice A (n - 1 : Nat) c)] (fun _ => by kernel_rfl) (WLd rfl (QXn (hK42 _ _ ?_))))
 refine WC.ret ?_
 refine (hret _ _ _ rfl ?_).1
 clear hN hret hret' hK42 hK32 hK13 hK11 hK9 hK7 hK4 hK2
 rw [flat_take cellsS_len, flat_drop cellsS_len, ← List.flatMap_append] at ho40
 exact ⟨rfl, hC39.fr, ho40⟩

theorem putS_ct (A : Option Addr) (n c : Nat) (xs : List Svc) (x : Svc) (out : Bool) (w : World) (ho : w.ownsRow 0 52 4 (.slice A n c) n (xs.flatMap cellsS)) (hs : sortK kS xs) (hlim : n < 2 ^ 39) : Calls Tryd.prog 61 #[.slice A n c, .agg #[.int .u32 x.v.vip, .int .i64 x.v.proto, .int .i64 x.v.port, .slice x.a x.v.ends.length x.c], .func (.func 30) #[] #[], .bool out] w fun e w' => ∃ v, e = .returned (.tuple #[v, .bool (hasK kS (kV x.v) xs)]) ∧ Fr w w' (blk (.slice A n c)) ∧ w'.ownsRow 0 52 4 v (putK kS xs x out).length ((putK kS xs x out).flatMap cellsS) ∧ (∀ y ∈ blk v, y ∈ blk (.slice A n c) ∨ w.heap.size ≤ y) := by
 refine enterD (n := 44) Tryd.func61 rfl rfl (Nat.le_of_ble_eq_true rfl) ?_
 intro Q0 hN hret hret'
 have hC := Cx.start1 w (own_lt ho)
 have hle : n ≤ c := own_le ho
 have hcnt := own_count cellsS_len (by decide) ho
 have hrk := rank_le (κ := kS) (kV x.v) xs
 refine WCs (fun K1 hK2 => ?_)
 refine WCg ?_
 refine WL.newM hC (fun b => .pointer (some ⟨b, 0, none⟩)) (.cells #[.int .u32 x.v.vip, .int .i64 x.v.proto, .int .i64 x.v.port, .slice x.a x.v.ends.length x.c] 52) 5 (fun _ => by kernel_rfl) (fun g3 w4 hb7 hF5 hC6 => ?_)
 have ho8 := own_fr ho hF5 (by simp)
 refine WLr 2 [(9, .bool false), (8, .slice none 0 0)] (fun _ => by kernel_rfl) (WLd rfl (QXn (hK2 _ _ ?_)))
 refine WCs (fun K9 hK10 => ?_)
 refine WCg (WLr 1 [(13, .slice A n c)] (fun _ => by kernel_rfl) ?_)
 refine WL.load 52 (.pointer (some ⟨g3, 0, none⟩)) (.agg #[.int .u32 x.v.vip, .int .i64 x.v.proto, .int .i64 x.v.port, .slice x.a x.v.ends.length x.c]) 14 (by kernel_rfl) (run_ld (hC6.get 0 rfl) rfl) ?_
 refine WLr 1 [(15, .func (.func 30) #[] #[])] (fun _ => by kernel_rfl) ?_
 refine WLc rfl rfl rfl rfl rfl (by kernel_rfl) (BSFS_n A n c xs x w4 (own_rd ho8 cellsS_len (by decide)) (own_count cellsS_len (by decide) ho8) (hs) (by omega)) ?_
 rintro _ w12 ⟨rfl, hF11⟩
 refine ⟨_, rfl, ?_⟩
 have hC13 := hC6.call hF11
 have ho14 := own_fr ho8 hF11 (by simp)
 refine WLr 5 [(11, .bool (hasK kS (kV x.v) xs)), (10, .int .i64 (rankK kS (kV x.v) xs : Int)), (18, .bool (hasK kS (kV x.v) xs)), (17, .int .i64 (rankK kS (kV x.v) xs : Int)), (12, .tuple #[.int .i64 (rankK kS (kV x.v) xs : Int), .bool (hasK kS (kV x.v) xs)])] (fun _ => by kernel_rfl) (WLd rfl (QXn (hK10 _ _ ?_)))
 refine WCs (fun K15 hK16 => ?_)
 refine WC.block ?_
 refine WCs (fun K17 hK18 => ?_)
 refine WCg (WLr 2 [(21, .bool out), (20, .bool out)] (fun _ => by kernel_rfl) ?_)
 refine WLa 21 (out) rfl (fun t19b => ?_) (fun t19b => ?_)
 ·
  refine WLr 3 [(19, .bool (hasK kS (kV x.v) xs)), (23, .bool (hasK kS (kV x.v) xs)), (22, .bool (hasK kS (kV x.v) xs))] (fun _ => by kernel_rfl) (WLd rfl (QXn (hK18 _ _ ?_)))
  refine WCa 19 (hasK kS (kV x.v) xs) rfl (fun t20b => ?_) (fun t20b => ?_)
  ·
   refine WCt rfl ?_
   refine WCs (fun K21 hK22 => ?_)
   refine WCg (WLr 4 [(27, .int .i64 (IntKind.i64.wrap ((rankK kS (kV x.v) xs : Int) + 1))), (26, .int .i64 (rankK kS (kV x.v) xs : Int)), (25, .int .i64 (rankK kS (kV x.v) xs : Int)), (24, .slice A n c)] (fun _ => by kernel_rfl) ?_)
   refine WLt (show (.int .i64 (IntKind.i64.wrap ((rankK kS (kV x.v) xs : Int) + 1)) : Value) = .int .i64 ((rankK kS (kV x.v) xs : Int) + 1) from by rw [wrap_in_i64 ((rankK kS (kV x.v) xs : Int) + 1) (by first | omega | (have q_ := (has_lt (by assumption) hs).1; omega)) (by first | omega | (have q_ := (has_lt (by assumption) hs).1; omega))]) ?_
   refine WLc rfl rfl rfl rfl rfl (by kernel_rfl) (DelS A n c (rankK kS (kV x.v) xs) xs w12 ho14 (by have q_ := (has_lt t20b hs).1; omega) (by omega)) ?_
   rintro _ w26 ⟨rfl, hF24, ho23⟩
   have hC25 := hC13.callF 0 rfl hF24 (fun x_ hx_ => .inl (by rw [blk_n _ n c (n - 1) c]; exact hx_)) (own_lt ho23)
   refine ⟨_, rfl, ?_⟩
   refine WLr 2 [(9, .bool true), (8, .slice A (n - 1) c)] (fun _ => by kernel_rfl) (WLd rfl (QXn (hK22 _ _ ?_)))
   refine WC.ret ?_
   refine QXk ?_
   refine QXr ?_
   refine (hret _ _ _ rfl ?_).1
   clear hN hret hret' hK22 hK18 hK16 hK10 hK2
   have hp27 : putK kS xs x out = (xs.take (rankK kS (kV x.v) xs) ++ xs.drop ((rankK kS (kV x.v) xs) + 1)) := by unfold putK; rw [if_pos (show hasK kS (kS x) xs = true from t20b), if_pos t19b]; first | done | rfl
   have hn28 := own_count cellsS_len (by decide) ho23
   rw [hp27]
   exact ⟨_, by rw [t20b]; rfl, hC25.fr, by rw [hn28]; exact ho23, (fun y_ hy_ => .inl (by rw [blk_n _ n c (n - 1) c]; exact hy_))⟩
  ·
   refine WCf rfl ?_
   refine WCs (fun K29 hK30 => ?_)
   refine WCg (WLr 2 [(29, .bool out), (30, .bool out)] (fun _ => by kernel_rfl) (WLd rfl (QXn (hK30 _ _ ?_))))
   refine WC.know 29 (.bool out) (.bool true) rfl (congrArg Value.bool (by exact t19b)) ?_
   refine WCt rfl ?_
   refine WCs (fun K31 hK32 => ?_)
   refine WCg (WLr 3 [(9, .bool false), (8, .slice A n c), (31, .slice A n c)] (fun _ => by kernel_rfl) (WLd rfl (QXn (hK32 _ _ ?_))))
   refine WC.ret ?_
   refine QXk ?_
   refine QXr ?_
   refine (hret _ _ _ rfl ?_).1
   clear hN hret hret' hK32 hK30 hK18 hK16 hK10 hK2
   have hp33 : putK kS xs x out = xs := by unfold putK; rw [if_neg (by rw [show hasK kS (kS x) xs = false from t20b]; decide), if_pos t19b]; first | done | rfl
   have hn34 := own_count cellsS_len (by decide) ho14
   rw [hp33]
   exact ⟨_, by rw [t20b]; rfl, hC13.fr, by rw [hn34]; exact ho14, (fun y_ hy_ => .inl hy_)⟩
 ·
  refine WLr 3 [(19, .bool false), (23, .bool false), (22, undef)] (fun _ => by kernel_rfl) (WLd rfl (QXn (hK18 _ _ ?_)))
  refine WCf rfl ?_
  refine WCs (fun K35 hK36 => ?_)
  refine WCg (WLr 2 [(29, .bool out), (30, .bool out)] (fun _ => by kernel_rfl) (WLd rfl (QXn (hK36 _ _ ?_))))
  refine WC.know 29 (.bool out) (.bool false) rfl (congrArg Value.bool (by exact t19b)) ?_
  refine WCf rfl ?_
  refine WCs (fun K37 hK38 => ?_)
  refine WCg (WLr 2 [(32, .bool (hasK kS (kV x.v) xs)), (33, .bool (hasK kS (kV x.v) xs))] (fun _ => by kernel_rfl) (WLd rfl (QXn (hK38 _ _ ?_))))
  refine WCa 32 (hasK kS (kV x.v) xs) rfl (fun t39b => ?_) (fun t39b => ?_)
  ·
   refine WCt rfl ?_
   refine WCs (fun K40 hK41 => ?_)
   refine WCg (WLr 2 [(35, .int .i64 (rankK kS (kV x.v) xs : Int)), (34, .slice A n c)] (fun _ => by kernel_rfl) ?_)
   refine WL.load 52 (.pointer (some ⟨g3, 0, none⟩)) (.agg #[.int .u32 x.v.vip, .int .i64 x.v.proto, .int .i64 x.v.port, .slice x.a x.v.ends.length x.c]) 36 (by kernel_rfl) (run_ld (hC13.get 0 rfl) rfl) ?_
   have hn46 := own_count cellsS_len (by decide) ho14
   obtain ⟨e42, he43⟩ := get_some (xs := xs) (i := (rankK kS (kV x.v) xs)) (by first | omega | (have q_ := (has_lt (by assumption) hs).1; omega))
   obtain ⟨b44, hA45⟩ := own_addr (by decide) cellsS_len ho14 he43
   refine WLi A n c 37 .i64 (rankK kS (kV x.v) xs : Int) b44 0 (rankK kS (kV x.v) xs) 4 (by kernel_rfl) hA45 (by first | omega | (have q_ := (has_lt (by assumption) hs).1; omega)) (by first | omega | (have q_ := (has_lt (by assumption) hs).1; omega)) ((rankK kS (kV x.v) xs) * 4) (by first | (simp; done) | omega) ?_
   obtain ⟨w47, hr48, hF49, ho51, hC50⟩ := stoE_run Tryd.prog cellsS_len hC13 0 hA45 rfl ho14 (rankK kS (kV x.v) xs) 0 (x := e42) he43 x [.int .u32 x.v.vip, .int .i64 x.v.proto, .int .i64 x.v.port, .slice x.a x.v.ends.length x.c] rfl 52 (.agg #[.int .u32 x.v.vip, .int .i64 x.v.proto, .int .i64 x.v.port, .slice x.a x.v.ends.length x.c]) ((rankK kS (kV x.v) xs) * 4) rfl rfl rfl (by first | rfl | simp [Nat.add_assoc])
   refine WL.semU (Instr.storeAt 52 (.pointer (some ⟨b44, (rankK kS (kV x.v) xs) * 4, none⟩)) (.agg #[.int .u32 x.v.vip, .int .i64 x.v.proto, .int .i64 x.v.port, .slice x.a x.v.ends.length x.c])) (by kernel_rfl) hr48 ?_
   refine WLd rfl (QXn (hK41 _ _ ?_))
   refine WCs (fun K52 hK53 => ?_)
   refine WCg (WLr 3 [(9, .bool true), (8, .slice A n c), (38, .slice A n c)] (fun _ => by kernel_rfl) (WLd rfl (QXn (hK53 _ _ ?_))))
   refine WC.ret ?_
   refine QXk ?_
   refine QXr ?_
   refine (hret _ _ _ rfl ?_).1
   clear hN hret hret' hK53 hK41 hK38 hK36 hK18 hK16 hK10 hK2
   have hp54 : putK kS xs x out = xs.set (rankK kS (kV x.v) xs) x := by unfold putK; rw [if_pos (show hasK kS (kS x) xs = true from t39b), if_neg (by rw [t19b]; decide)]; first | done | rfl
   have hn55 := own_count cellsS_len (by decide) ho51
   rw [hp54]
   exact ⟨_, by rw [t39b]; rfl, hC50.fr, by rw [hn55]; exact ho51, (fun y_ hy_ => .inl hy_)⟩
  ·
   refine WCf rfl (WC.skip ?_)
   refine QXb ?_
   refine QXn (hK16 _ _ ?_)
   refine WCs (fun K56 hK57 => ?_)
   refine WCg (WLr 2 [(40, .int .i64 (rankK kS (kV x.v) xs : Int)), (39, .slice A n c)] (fun _ => by kernel_rfl) ?_)
   refine WL.load 52 (.pointer (some ⟨g3, 0, none⟩)) (.agg #[.int .u32 x.v.vip, .int .i64 x.v.proto, .int .i64 x.v.port, .slice x.a x.v.ends.length x.c]) 41 (by kernel_rfl) (run_ld (hC13.get 0 rfl) rfl) ?_
   refine WL.newM hC13 (fun b => .slice (some ⟨b, 0, none⟩) 1 1) (.cells #[.int .u32 x.v.vip, .int .i64 x.v.proto, .int .i64 x.v.port, .slice x.a x.v.ends.length x.c] 52) 42 (fun _ => by kernel_rfl) (fun g58 w59 hb62 hF60 hC61 => ?_)
   have ho63 := own_fr ho14 hF60 (by simp)
   have hcnt_ := own_count cellsS_len (by decide) ho63
   refine WLc rfl rfl rfl rfl rfl (by kernel_rfl) (InsS_ct A g58 n c (rankK kS (kV x.v) xs) xs x w59 ho63 (hC61.get 1 rfl) (hC61.notin 0 1 rfl rfl) (by have q_ := rank_le (κ := kS) (kS x) xs; omega) (by omega)) ?_
   rintro _ w68 ⟨v_, rfl, hF66, ho64, hsub65⟩
   have hC67 := hC61.callF 0 rfl hF66 hsub65 (own_lt ho64)
   obtain ⟨A69, c70, rfl, hle71⟩ := own_form ho64
   refine ⟨_, rfl, ?_⟩
   refine WLr 2 [(9, .bool false), (8, .slice A69 (n + 1) c70)] (fun _ => by kernel_rfl) (WLd rfl (QXn (hK57 _ _ ?_)))
   refine WC.ret ?_
   refine (hret _ _ _ rfl ?_).1
   clear hN hret hret' hK57 hK38 hK36 hK18 hK16 hK10 hK2
   have hp72 : putK kS xs x out = (xs.take (rankK kS (kV x.v) xs) ++ x :: xs.drop (rankK kS (kV x.v) xs)) := by unfold putK; rw [if_neg (by rw [show hasK kS (kS x) xs = false from t39b]; decide), if_neg (by rw [t19b]; decide)]; first | done | rfl
   have hn73 := own_count cellsS_len (by decide) ho64
   rw [hp72]
   exact ⟨_, by rw [t39b]; rfl, hC67.fr, by rw [hn73]; exact ho64, (fun y_ hy_ => (hsub65 y_ hy_).imp id (fun h_ => Nat.le_trans hC61.fr.size h_))⟩

theorem BSFN (A : Option Addr) (c : Nat) (xs : List SnatV) (l : SnatV) (w : World) (hr : Rd w 2 cellsN A xs) (hs : sortK kN xs) (hm : xs.length < 2 ^ 40) : Calls Tryd.prog 78 #[.slice A xs.length c, .agg #[.int .u32 l.dip, .int .u32 l.vip], .func (.func 63) #[] #[]] w fun e w' => e = .returned (.tuple #[.int .i64 (rankK kN (kN l) xs : Int), .bool (hasK kN (kN l) xs)]) ∧ Fr w w' [] := by
 refine enterD (n := 49) Tryd.func78 rfl rfl (Nat.le_of_ble_eq_true rfl) ?_
 intro Q0 hN hret hret'
 have hC := Cx.start w
 refine WCs (fun K1 hK2 => ?_)
 refine WCg ?_
 refine WL.newM hC (fun b => .pointer (some ⟨b, 0, none⟩)) (.cells #[.int .u32 l.dip, .int .u32 l.vip] 54) 4 (fun _ => by kernel_rfl) (fun g3 w4 hb7 hF5 hC6 => ?_)
 refine WLr 2 [(7, .bool false), (6, .int .i64 0)] (fun _ => by kernel_rfl) (WLd rfl (QXn (hK2 _ _ ?_)))
 refine WCs (fun K8 hK9 => ?_)
 refine WCg (WLr 3 [(8, .int .i64 (xs.length : Int)), (13, .int .i64 (xs.length : Int)), (12, .slice A xs.length c)] (fun _ => by kernel_rfl) (WLd rfl (QXn (hK9 _ _ ?_))))
 refine WCs (fun K10 hK11 => ?_)
 refine WCg (WLr 3 [(10, .int .i64 (xs.length : Int)), (9, .int .i64 0), (14, .int .i64 (xs.length : Int))] (fun _ => by kernel_rfl) (WLd rfl (QXn (hK11 _ _ ?_))))
 refine WCs (fun K12 hK13 => ?_)
 refine WC.block ?_
 refine WC.loop (fun m_ E_ w_ => ∃ (i j : Nat), m_ = j - i ∧ E_ = [(0, .slice A xs.length c), (1, .agg #[.int .u32 l.dip, .int .u32 l.vip]), (2, .func (.func 63) #[] #[]), (4, .pointer (some ⟨g3, 0, none⟩)), (6, .int .i64 0), (7, .bool false), (8, .int .i64 (xs.length : Int)), (9, .int .i64 (i : Int)), (10, .int .i64 (j : Int)), (12, .slice A xs.length c), (13, .int .i64 (xs.length : Int)), (14, .int .i64 (xs.length : Int))] ∧ Cx w [] w_ [(g3, .cells #[.int .u32 l.dip, .int .u32 l.vip] 54)] [] ∧ (i ≤ j ∧ j ≤ xs.length ∧ (∀ q y, q < i → xs[q]? = some y → lt3 (kN y) (kN l) = true) ∧ (∀ q y, j ≤ q → xs[q]? = some y → lt3 (kN y) (kN l) = false))) ⟨_, _, ⟨0, xs.length, rfl, rfl, hC6, Nat.zero_le _, Nat.le_refl _, fun q y hq => by omega, fun q y hq hy => by have := (List.getElem?_eq_some_iff.1 hy).1; omega⟩, sub_of ⟨rfl, rfl, rfl, rfl, rfl, rfl, rfl, rfl, rfl, rfl, rfl, rfl, trivial⟩⟩ (fun m17 E_ w18 K14 hK15 hI16 => ?_)
 obtain ⟨i, j, rfl, rfl, hC19, hij, hj, hlo, hhi⟩ := hI16
 refine WCs (fun K20 hK21 => ?_)
 refine WCs (fun K22 hK23 => ?_)
 refine WCg (WLr 3 [(17, .bool (decide ((i : Int) < (j : Int)))), (16, .int .i64 (j : Int)), (15, .int .i64 (i : Int))] (fun _ => by kernel_rfl) (WLd rfl (QXn (hK23 _ _ ?_))))
 refine WCa 17 (decide ((i : Int) < (j : Int))) rfl (fun t24b => ?_) (fun t24b => ?_)
 ·
  have t24 : (i : Int) < (j : Int) := by have q_ := of_decide_eq_true t24b; omega
  refine WCt rfl ?_
  refine WC.skip ?_
  refine QXn (hK21 _ _ ?_)
  refine WC.block ?_
  refine WCs (fun K25 hK26 => ?_)
  refine WCg (WLr 3 [(20, .int .i64 (IntKind.i64.wrap ((i : Int) + (j : Int)))), (19, .int .i64 (j : Int)), (18, .int .i64 (i : Int))] (fun _ => by kernel_rfl) ?_)
  refine WLt (show (.int .i64 (IntKind.i64.wrap ((i : Int) + (j : Int))) : Value) = .int .i64 ((i : Int) + (j : Int)) from by rw [wrap_in_i64 ((i : Int) + (j : Int)) (by omega) (by omega)]) ?_
  refine WLr 1 [(21, .int .u64 (IntKind.u64.wrap ((i : Int) + (j : Int))))] (fun _ => by kernel_rfl) ?_
  refine WLt (show (.int .u64 (IntKind.u64.wrap ((i : Int) + (j : Int))) : Value) = .int .u64 ((i : Int) + (j : Int)) from by rw [wrap_in_u64 ((i : Int) + (j : Int)) (by omega) (by omega)]) ?_
  refine WLr 1 [(22, .int .u64 (((i : Int) + (j : Int)).fdiv (2 ^ 1)))] (fun _ => by kernel_rfl) ?_
  refine WLt (show (.int .u64 (((i : Int) + (j : Int)).fdiv (2 ^ 1)) : Value) = .int .u64 (((i : Int) + (j : Int)) / 2) from by rw [Int.fdiv_eq_ediv_of_nonneg ((i : Int) + (j : Int)) (by decide)]; rfl) ?_
  refine WLr 1 [(23, .int .i64 (IntKind.i64.wrap (((i : Int) + (j : Int)) / 2)))] (fun _ => by kernel_rfl) ?_
  refine WLt (show (.int .i64 (IntKind.i64.wrap (((i : Int) + (j : Int)) / 2)) : Value) = .int .i64 (((i + j) / 2 : Nat) : Int) from by rw [wrap_in_i64 _ (by omega) (by omega)]; congr 1) ?_
  refine WLr 1 [(11, .int .i64 (((i + j) / 2 : Nat) : Int))] (fun _ => by kernel_rfl) (WLd rfl (QXn (hK26 _ _ ?_)))
  refine WCs (fun K27 hK28 => ?_)
  refine WC.drawC hC19 [] (by kernel_rfl) (fun w29 hF30 hC31 hS32 => ?_)
  refine WDp (NPt (NPb (NPt (NPb (NPt hN))))) 0 24 (.func (.func 63) #[] #[]) (by kernel_rfl) (fun _ => by kernel_rfl) hS32 ?_
  refine WDp (NPt (NPb (NPt (NPb (NPt hN))))) 1 25 (.slice A xs.length c) (by kernel_rfl) (fun _ => by kernel_rfl) hS32 ?_
  refine WDp (NPt (NPb (NPt (NPb (NPt hN))))) 2 26 (.int .i64 (((i + j) / 2 : Nat) : Int)) (by kernel_rfl) (fun _ => by kernel_rfl) hS32 ?_
  obtain ⟨e33, he34⟩ := get_some (xs := xs) (i := (((i + j) / 2 : Nat) : Int).toNat) (by omega)
  obtain ⟨b35, o37, hA36, hc38⟩ := hr.at_ _ _ he34
  refine WDi (NPt (NPb (NPt (NPb (NPt hN))))) 3 A xs.length c 27 .i64 (((i + j) / 2 : Nat) : Int) b35 o37 ((((i + j) / 2 : Nat) : Int).toNat) 2 (by kernel_rfl) (by kernel_rfl) hA36 (by omega) (by omega) (o37 + ((((i + j) / 2 : Nat) : Int).toNat) * 2) (by first | (simp; done) | omega) hS32 ?_
  refine WDl (NPt (NPb (NPt (NPb (NPt hN))))) 4 54 (.pointer (some ⟨b35, o37 + ((((i + j) / 2 : Nat) : Int).toNat) * 2, none⟩)) (.agg #[.int .u32 e33.dip, .int .u32 e33.vip]) 28 (by kernel_rfl) (by kernel_rfl) (fun _ hS_ => run_rdN (l := [.int .u32 e33.dip, .int .u32 e33.vip]) rfl rfl (fun j u hu => by have hq_ := Fr.cell hS_ (hC31.fr.cell (hc38 j u hu) (by simp)) (by simp); simpa [Nat.add_assoc] using hq_)) hS32 ?_
  refine WDl (NPt (NPb (NPt (NPb (NPt hN))))) 5 54 (.pointer (some ⟨g3, 0, none⟩)) (.agg #[.int .u32 l.dip, .int .u32 l.vip]) 29 (by kernel_rfl) (by kernel_rfl) (fun _ hS_ => run_ld (Fr.has hS_ (hC31.get 0 rfl) (by simp)) rfl) hS32 ?_
  refine WD.call 6 (by kernel_rfl) rfl rfl rfl rfl rfl (by kernel_rfl) (byDip_ct e33 l w29) ?_
  rintro _ w40 ⟨rfl, hF39⟩
  have hS42 := hS32.trans hF39 (by simp)
  refine ⟨_, rfl, hS42, ?_⟩
  have hC41 := hC31.call hF39
  refine WDp (NPt (NPb (NPt (NPb (NPt hN))))) 7 31 (.bool (decide ((cmp3 (kN e33) (kN l)) < 0))) (by kernel_rfl) (fun _ => by kernel_rfl) hS42 ?_
  refine WD.done (by kernel_rfl) ?_
  refine QXn (hK28 _ _ ?_)
  refine WCa 31 (decide ((cmp3 (kN e33) (kN l)) < 0)) rfl (fun t43b => ?_) (fun t43b => ?_)
  ·
   have t43 : (cmp3 (kN e33) (kN l)) < 0 := by have q_ := of_decide_eq_true t43b; omega
   refine WCt rfl ?_
   refine WCg (WLr 2 [(33, .int .i64 (IntKind.i64.wrap ((((i + j) / 2 : Nat) : Int) + 1))), (32, .int .i64 (((i + j) / 2 : Nat) : Int))] (fun _ => by kernel_rfl) ?_)
   refine WLt (show (.int .i64 (IntKind.i64.wrap ((((i + j) / 2 : Nat) : Int) + 1)) : Value) = .int .i64 ((((i + j) / 2 : Nat) : Int) + 1) from by rw [wrap_in_i64 ((((i + j) / 2 : Nat) : Int) + 1) (by omega) (by omega)]) ?_
   refine WLr 1 [(9, .int .i64 ((((i + j) / 2 : Nat) : Int) + 1))] (fun _ => by kernel_rfl) ?_
   refine WLd rfl ?_
   refine QXb ?_
   refine QXn ?_
   have hC44 := hC41.pick [0] [] rfl rfl
   refine fun a_ ha_ => hK15 _ _ _ ?_ ⟨((i + j) / 2) + 1, j, rfl, rfl, hC44, by omega, by omega, bsK_lo hs he34 (cmp3_lt.1 t43), hhi⟩ a_ (ha_.weaken (sub_of ⟨rfl, rfl, rfl, rfl, rfl, rfl, rfl, rfl, rfl, rfl, rfl, rfl, trivial⟩))
   omega
  ·
   have t43 : (0 : Int) ≤ (cmp3 (kN e33) (kN l)) := by have q_ := of_decide_eq_false t43b; omega
   refine WCf rfl ?_
   refine WCg (WLr 2 [(10, .int .i64 (((i + j) / 2 : Nat) : Int)), (34, .int .i64 (((i + j) / 2 : Nat) : Int))] (fun _ => by kernel_rfl) ?_)
   refine WLd rfl ?_
   refine QXb ?_
   refine QXn ?_
   have hC45 := hC41.pick [0] [] rfl rfl
   refine fun a_ ha_ => hK15 _ _ _ ?_ ⟨i, (((i + j) / 2 : Nat) : Int).toNat, rfl, rfl, hC45, by omega, by omega, hlo, bsK_hi hs he34 (cmp3_not (by omega))⟩ a_ (ha_.weaken (sub_of ⟨rfl, rfl, rfl, rfl, rfl, rfl, rfl, rfl, rfl, rfl, rfl, rfl, trivial⟩))
   omega
 ·
  have t24 : (j : Int) ≤ (i : Int) := by have q_ := of_decide_eq_false t24b; omega
  refine WCf rfl ?_
  refine WC.exit ?_
  refine QXe ?_
  refine QXe ?_
  refine QX.block_hit ?_
  refine QXn (hK13 _ _ ?_)
  refine WCs (fun K46 hK47 => ?_)
  refine WC.drawC hC19 [] (by kernel_rfl) (fun w48 hF49 hC50 hS51 => ?_)
  refine WDp (NPt hN) 0 35 (.int .i64 (i : Int)) (by kernel_rfl) (fun _ => by kernel_rfl) hS51 ?_
  refine WDp (NPt hN) 1 36 (.int .i64 (i : Int)) (by kernel_rfl) (fun _ => by kernel_rfl) hS51 ?_
  refine WDp (NPt hN) 2 37 (.int .i64 (xs.length : Int)) (by kernel_rfl) (fun _ => by kernel_rfl) hS51 ?_
  refine WDp (NPt hN) 3 38 (.bool (decide ((i : Int) < (xs.length : Int)))) (by kernel_rfl) (fun _ => by kernel_rfl) hS51 ?_
  refine WDp (NPt hN) 4 39 (.bool (decide ((i : Int) < (xs.length : Int)))) (by kernel_rfl) (fun _ => by kernel_rfl) hS51 ?_
  refine WDa 39 (decide ((i : Int) < (xs.length : Int))) rfl (fun t52b => ?_) (fun t52b => ?_)
  ·
   have t52 : (i : Int) < (xs.length : Int) := by have q_ := of_decide_eq_true t52b; omega
   refine WDp (NPt hN) 5 40 (.func (.func 63) #[] #[]) (by kernel_rfl) (fun _ => by kernel_rfl) hS51 ?_
   refine WDp (NPt hN) 6 41 (.slice A xs.length c) (by kernel_rfl) (fun _ => by kernel_rfl) hS51 ?_
   refine WDp (NPt hN) 7 42 (.int .i64 (i : Int)) (by kernel_rfl) (fun _ => by kernel_rfl) hS51 ?_
   obtain ⟨e53, he54⟩ := get_some (xs := xs) (i := i) (by omega)
   obtain ⟨b55, o57, hA56, hc58⟩ := hr.at_ _ _ he54
   refine WDi (NPt hN) 8 A xs.length c 43 .i64 (i : Int) b55 o57 i 2 (by kernel_rfl) (by kernel_rfl) hA56 (by omega) (by omega) (o57 + i * 2) (by first | (simp; done) | omega) hS51 ?_
   refine WDl (NPt hN) 9 54 (.pointer (some ⟨b55, o57 + i * 2, none⟩)) (.agg #[.int .u32 e53.dip, .int .u32 e53.vip]) 44 (by kernel_rfl) (by kernel_rfl) (fun _ hS_ => run_rdN (l := [.int .u32 e53.dip, .int .u32 e53.vip]) rfl rfl (fun j u hu => by have hq_ := Fr.cell hS_ (hC50.fr.cell (hc58 j u hu) (by simp)) (by simp); simpa [Nat.add_assoc] using hq_)) hS51 ?_
   refine WDl (NPt hN) 10 54 (.pointer (some ⟨g3, 0, none⟩)) (.agg #[.int .u32 l.dip, .int .u32 l.vip]) 45 (by kernel_rfl) (by kernel_rfl) (fun _ hS_ => run_ld (Fr.has hS_ (hC50.get 0 rfl) (by simp)) rfl) hS51 ?_
   refine WD.call 11 (by kernel_rfl) rfl rfl rfl rfl rfl (by kernel_rfl) (byDip_ct e53 l w48) ?_
   rintro _ w60 ⟨rfl, hF59⟩
   have hS62 := hS51.trans hF59 (by simp)
   refine ⟨_, rfl, hS62, ?_⟩
   have hC61 := hC50.call hF59
   refine WDp (NPt hN) 12 47 (.bool ((cmp3 (kN e53) (kN l)) == 0)) (by kernel_rfl) (fun _ => by kernel_rfl) hS62 ?_
   refine WDp (NPt hN) 13 48 (.bool ((cmp3 (kN e53) (kN l)) == 0)) (by kernel_rfl) (fun _ => by kernel_rfl) hS62 ?_
   refine WDp (NPt hN) 14 6 (.int .i64 (i : Int)) (by kernel_rfl) (fun _ => by kernel_rfl) hS62 ?_
   refine WDp (NPt hN) 15 7 (.bool ((cmp3 (kN e53) (kN l)) == 0)) (by kernel_rfl) (fun _ => by kernel_rfl) hS62 ?_
   refine WD.done (by kernel_rfl) ?_
   refine QXn (hK47 _ _ ?_)
   refine WC.ret ?_
   refine (hret _ _ _ rfl ?_).1
   clear hN hret hret' hK47 hK23 hK21 hK13 hK11 hK9 hK2
   have e_ : i = j := by omega
   subst e_
   have hr_ := rank_of hj hlo hhi
   exact ⟨by rw [hr_]; exact congrArg (fun b_ => Ending.returned (.tuple #[.int .i64 (i : Int), .bool b_])) (by rw [has_at hhi hlo hs he54]), hC61.fr⟩
  ·
   have t52 : (xs.length : Int) ≤ (i : Int) := by have q_ := of_decide_eq_false t52b; omega
   refine WDp (NPt hN) 5 40 (undef) (by kernel_rfl) (fun _ => by kernel_rfl) hS51 ?_
   refine WDp (NPt hN) 6 41 (undef) (by kernel_rfl) (fun _ => by kernel_rfl) hS51 ?_
   refine WDp (NPt hN) 7 42 (undef) (by kernel_rfl) (fun _ => by kernel_rfl) hS51 ?_
   refine WDp (NPt hN) 8 43 (undef) (by kernel_rfl) (fun _ => by kernel_rfl) hS51 ?_
   refine WDp (NPt hN) 9 44 (undef) (by kernel_rfl) (fun _ => by kernel_rfl) hS51 ?_
   refine WDp (NPt hN) 10 45 (undef) (by kernel_rfl) (fun _ => by kernel_rfl) hS51 ?_
   refine WDp (NPt hN) 11 46 (undef) (by kernel_rfl) (fun _ => by kernel_rfl) hS51 ?_
   refine WDp (NPt hN) 12 47 (undef) (by kernel_rfl) (fun _ => by kernel_rfl) hS51 ?_
   refine WDp (NPt hN) 13 48 (.bool false) (by kernel_rfl) (fun _ => by kernel_rfl) hS51 ?_
   refine WDp (NPt hN) 14 6 (.int .i64 (i : Int)) (by kernel_rfl) (fun _ => by kernel_rfl) hS51 ?_
   refine WDp (NPt hN) 15 7 (.bool false) (by kernel_rfl) (fun _ => by kernel_rfl) hS51 ?_
   refine WD.done (by kernel_rfl) ?_
   refine QXn (hK47 _ _ ?_)
   refine WC.ret ?_
   refine (hret _ _ _ rfl ?_).1
   clear hN hret hret' hK47 hK23 hK21 hK13 hK11 hK9 hK2
   have e_ : i = j := by omega
   subst e_
   have hr_ := rank_of hj hlo hhi
   exact ⟨by rw [hr_]; exact congrArg (fun b_ => Ending.returned (.tuple #[.int .i64 (i : Int), .bool b_])) (by rw [has_end hlo (by omega)]), hC50.fr⟩

theorem BSFN_n (A : Option Addr) (n c : Nat) (xs : List SnatV) (l : SnatV) (w : World) (hr : Rd w 2 cellsN A xs) (hn : xs.length = n) (hs : sortK kN xs) (hm : n < 2 ^ 40) : Calls Tryd.prog 78 #[.slice A n c, .agg #[.int .u32 l.dip, .int .u32 l.vip], .func (.func 63) #[] #[]] w fun e w' => e = .returned (.tuple #[.int .i64 (rankK kN (kN l) xs : Int), .bool (hasK kN (kN l) xs)]) ∧ Fr w w' [] := by subst hn; exact BSFN A c xs l w hr hs hm
theorem InsLtN (g b c n i : Nat) (L : List Value) (x : SnatV) (w : World) (hg : w.heap[g]? = some (.cells L.toArray 54 (0, 0))) (hb : w.heap[b]? = some (.cells #[.int .u32 x.dip, .int .u32 x.vip] 54 (0, 0))) (hne : b ≠ g) (hi : i < n) (hnc : n ≤ c) (hL : L.length = c * 2) (hcm : c ≤ maxLen) (h1 : (L.take (n * 2)).all Value.oneCell' = true) (hlim : n < 2 ^ 40) : Calls Tryd.prog 80 #[.slice (some ⟨g, 0, none⟩) n c, .int .i64 (i : Int), .slice (some ⟨b, 0, none⟩) 1 1] w fun e w' => ∃ v, e = .returned v ∧ Fr w w' [g] ∧ w'.ownsRow 0 54 2 v (n + 1) (L.take (i * 2) ++ [.int .u32 x.dip, .int .u32 x.vip] ++ (L.drop (i * 2)).take ((n - i) * 2)) ∧ (∀ y ∈ blk v, y = g ∨ w.heap.size ≤ y) := by
 refine enterD (n := 95) Tryd.func80 rfl rfl (Nat.le_of_ble_eq_true rfl) ?_
 intro Q0 hN hret hret'
 have hC := Cx.startM hg
 refine WCs (fun K1 hK2 => ?_)
 refine WCg (WLr 1 [(6, .slice none 0 0)] (fun _ => by kernel_rfl) (WLd rfl (QXn (hK2 _ _ ?_))))
 refine WCs (fun K3 hK4 => ?_)
 refine WCg (WLr 2 [(11, .int .i64 (i : Int)), (10, .slice (some ⟨g, 0, none⟩) n c)] (fun _ => by kernel_rfl) ?_)
 have hb5 : n ≤ c := by omega
 refine WL.slc 27 54 2 (some ⟨g, 0, none⟩) (some ⟨g, i * 2, none⟩) n c i n (n - i) (c - i) (some (.int .i64 (i : Int))) none 12 (by kernel_rfl) (by kernel_rfl) (bnd.yes (by omega)) bnd.no (by omega) hb5 (slcAt_blk (by omega) (by simp)) (by first | rfl | omega) (by first | rfl | omega) ?_
 refine WLd rfl (QXn (hK4 _ _ ?_))
 refine WCs (fun K6 hK7 => ?_)
 refine WCg (WLr 3 [(7, .int .i64 1), (14, .int .i64 1), (13, .slice (some ⟨b, 0, none⟩) 1 1)] (fun _ => by kernel_rfl) (WLd rfl (QXn (hK7 _ _ ?_))))
 refine WCs (fun K8 hK9 => ?_)
 refine WCs (fun K10 hK11 => ?_)
 refine WCg (WLr 2 [(16, .bool false), (15, .int .i64 1)] (fun _ => by kernel_rfl) (WLd rfl (QXn (hK11 _ _ ?_))))
 refine WCf rfl (WC.skip (QXn (hK9 _ _ ?_)))
 refine WCs (fun K12 hK13 => ?_)
 refine WCg (WLr 3 [(8, .int .i64 (n : Int)), (19, .int .i64 (n : Int)), (18, .slice (some ⟨g, 0, none⟩) n c)] (fun _ => by kernel_rfl) (WLd rfl (QXn (hK13 _ _ ?_))))
 refine WCs (fun K14 hK15 => ?_)
 refine WCs (fun K16 hK17 => ?_)
 refine WCg (WLr 3 [(22, .bool ((i : Int) == (n : Int))), (21, .int .i64 (n : Int)), (20, .int .i64 (i : Int))] (fun _ => by kernel_rfl) (WLd rfl (QXn (hK17 _ _ ?_))))
 refine WC.know 22 (.bool ((i : Int) == (n : Int))) (.bool false) rfl (congrArg Value.bool (by simp; omega)) ?_
 refine WCf rfl (WC.skip (QXn (hK15 _ _ ?_)))
 refine WCs (fun K18 hK19 => ?_)
 refine WCs (fun K20 hK21 => ?_)
 refine WCg (WLr 3 [(28, .int .i64 (IntKind.i64.wrap ((n : Int) + 1))), (27, .int .i64 1), (26, .int .i64 (n : Int))] (fun _ => by kernel_rfl) ?_)
 refine WLt (show (.int .i64 (IntKind.i64.wrap ((n : Int) + 1)) : Value) = .int .i64 ((n : Int) + 1) from by rw [wrap_in_i64 ((n : Int) + 1) (by omega) (by omega)]) ?_
 refine WLr 3 [(31, .bool (decide (((n : Int) + 1) > (c : Int)))), (30, .int .i64 (c : Int)), (29, .slice (some ⟨g, 0, none⟩) n c)] (fun _ => by kernel_rfl) (WLd rfl (QXn (hK21 _ _ ?_)))
 refine WCa 31 (decide (((n : Int) + 1) > (c : Int))) rfl (fun t22b => ?_) (fun t22b => ?_)
 ·
  have t22 : (c : Int) < ((n : Int) + 1) := by have q_ := of_decide_eq_true t22b; omega
  refine WCt rfl ?_
  refine WCs (fun K23 hK24 => ?_)
  refine WCg (WLr 2 [(33, .int .i64 (i : Int)), (32, .slice (some ⟨g, 0, none⟩) n c)] (fun _ => by kernel_rfl) ?_)
  have hb25 : i ≤ c := by omega
  refine WL.slc 27 54 2 (some ⟨g, 0, none⟩) (some ⟨g, 0, none⟩) n c 0 i i c none (some (.int .i64 (i : Int))) 34 (by kernel_rfl) (by kernel_rfl) bnd.no (bnd.yes (by omega)) (by omega) hb25 (slcAt_pre _ _ _) (by first | rfl | omega) (by first | rfl | omega) ?_
  refine WLr 3 [(37, .int .i64 (IntKind.i64.wrap ((n : Int) + 1))), (36, .int .i64 1), (35, .int .i64 (n : Int))] (fun _ => by kernel_rfl) ?_
  refine WLt (show (.int .i64 (IntKind.i64.wrap ((n : Int) + 1)) : Value) = .int .i64 ((n : Int) + 1) from by rw [wrap_in_i64 ((n : Int) + 1) (by omega) (by omega)]) ?_
  refine WLr 2 [(39, .int .i64 (IntKind.i64.wrap (((n : Int) + 1) - (i : Int)))), (38, .int .i64 (i : Int))] (fun _ => by kernel_rfl) ?_
  refine WLt (show (.int .i64 (IntKind.i64.wrap (((n : Int) + 1) - (i : Int))) : Value) = .int .i64 (((n : Int) + 1) - (i : Int)) from by rw [wrap_in_i64 (((n : Int) + 1) - (i : Int)) (by omega) (by omega)]) ?_
  obtain ⟨g26, c27, w28, hr29, hge30, hF31, hn32, hcm33, hC34⟩ := appZ_run Tryd.prog hC 27 3 27 54 2 8 i c (n + 1 - i) (z := (.agg #[.int .u32 0, .int .u32 0])) (xs := (L.drop 0).take (i * 2)) rfl rfl (by kernel_rfl) (by decide) (by simp; omega) (srcOk.part (hC.get 0 rfl)) (by omega) (by omega) (by omega) (((n : Int) + 1) - (i : Int)) (by omega)
  have hL2l : ((L.drop 0).take (i * 2) ++ (Builtin.zeroCells (.agg #[.int .u32 0, .int .u32 0] : Value).cells (n + 1 - i)).toList ++ (Builtin.zeroCells (.agg #[.int .u32 0, .int .u32 0] : Value).cells (c27 - (i + (n + 1 - i)))).toList).length = c27 * 2 := by simp [size_zeroCells, Value.cells]; omega
  have hL2t : ((L.drop 0).take (i * 2) ++ (Builtin.zeroCells (.agg #[.int .u32 0, .int .u32 0] : Value).cells (n + 1 - i)).toList ++ (Builtin.zeroCells (.agg #[.int .u32 0, .int .u32 0] : Value).cells (c27 - (i + (n + 1 - i)))).toList).take (i * 2) = L.take (i * 2) := by rw [List.append_assoc, List.take_append_of_le_length (by simp; omega)]; simp [List.take_take]
  generalize hL2 : ((L.drop 0).take (i * 2) ++ (Builtin.zeroCells (.agg #[.int .u32 0, .int .u32 0] : Value).cells (n + 1 - i)).toList ++ (Builtin.zeroCells (.agg #[.int .u32 0, .int .u32 0] : Value).cells (c27 - (i + (n + 1 - i)))).toList) = L2 at hC34 hL2l hL2t
  refine WL.sem (Builtin.append_ #[27, 3] 27 #[.slice (some ⟨g, 0, none⟩) i c, .int .i64 (((n : Int) + 1) - (i : Int))]) 40 (.slice (some ⟨g26, 0, none⟩) (i + (n + 1 - i)) c27) (by kernel_rfl) hr29 ?_
  refine WLr 1 [(9, .slice (some ⟨g26, 0, none⟩) (i + (n + 1 - i)) c27)] (fun _ => by kernel_rfl) (WLd rfl (QXn (hK24 _ _ ?_)))
  refine WCs (fun K35 hK36 => ?_)
  refine WCg (WLr 2 [(42, .int .i64 (i : Int)), (41, .slice (some ⟨g26, 0, none⟩) (i + (n + 1 - i)) c27)] (fun _ => by kernel_rfl) ?_)
  have hb37 : i + (n + 1 - i) ≤ c27 := by omega
  refine WL.slc 27 54 2 (some ⟨g26, 0, none⟩) (some ⟨g26, i * 2, none⟩) (i + (n + 1 - i)) c27 i (i + (n + 1 - i)) ((i + (n + 1 - i)) - i) (c27 - i) (some (.int .i64 (i : Int))) none 43 (by kernel_rfl) (by kernel_rfl) (bnd.yes (by omega)) bnd.no (by omega) hb37 (slcAt_blk (by omega) (by simp)) (by first | rfl | omega) (by first | rfl | omega) ?_
  refine WLr 1 [(44, .slice (some ⟨b, 0, none⟩) 1 1)] (fun _ => by kernel_rfl) ?_
  obtain ⟨w38, hr39, hF40, hC41⟩ := copy_run Tryd.prog hC34 1 27 27 3 54 2 g26 (i * 2) ((i + (n + 1 - i)) - i) (c27 - i) 1 1 1 (some ⟨b, 0, none⟩) [.int .u32 x.dip, .int .u32 x.vip] rfl rfl (by show min _ _ = _; omega) rfl (srcOk.blk 1 (hC34.fr.has hb (by simpa using hne))) (by simp; omega) rfl
  refine WL.sem (Builtin.copy_ #[27, 27] 3 #[.slice (some ⟨g26, i * 2, none⟩) ((i + (n + 1 - i)) - i) (c27 - i), .slice (some ⟨b, 0, none⟩) 1 1]) 45 (.int .i64 1) (by kernel_rfl) hr39 ?_
  refine WLd rfl (QXn (hK36 _ _ ?_))
  refine WCs (fun K42 hK43 => ?_)
  refine WC.drawC hC41 [g26] (by kernel_rfl) (fun w44 hF45 hC46 hS47 => ?_)
  refine WDp (NPt (NPt hN)) 0 46 (.slice (some ⟨g26, 0, none⟩) (i + (n + 1 - i)) c27) (by kernel_rfl) (fun _ => by kernel_rfl) hS47 ?_
  refine WDp (NPt (NPt hN)) 1 47 (.int .i64 (i : Int)) (by kernel_rfl) (fun _ => by kernel_rfl) hS47 ?_
  refine WDp (NPt (NPt hN)) 2 48 (.int .i64 1) (by kernel_rfl) (fun _ => by kernel_rfl) hS47 ?_
  refine WDp (NPt (NPt hN)) 3 49 (.int .i64 (IntKind.i64.wrap ((i : Int) + 1))) (by kernel_rfl) (fun _ => by kernel_rfl) hS47 ?_
  refine WD.recast (show (.int .i64 (IntKind.i64.wrap ((i : Int) + 1)) : Value) = .int .i64 ((i : Int) + 1) from by rw [wrap_in_i64 ((i : Int) + 1) (by omega) (by omega)]) ?_
  have hb48 : i + (n + 1 - i) ≤ c27 := by omega
  refine WD.slc (NPt (NPt hN)) 4 27 54 2 (some ⟨g26, 0, none⟩) (some ⟨g26, (i + 1) * 2, none⟩) (i + (n + 1 - i)) c27 (i + 1) (i + (n + 1 - i)) ((i + (n + 1 - i)) - (i + 1)) (c27 - (i + 1)) (some (.int .i64 ((i : Int) + 1))) none 50 (by kernel_rfl) (by kernel_rfl) (by kernel_rfl) (bnd.yes (by omega)) bnd.no (by omega) hb48 (slcAt_blk (by omega) (by simp)) (by first | rfl | omega) (by first | rfl | omega) hS47 ?_
  refine WDp (NPt (NPt hN)) 5 51 (.slice (some ⟨g, 0, none⟩) n c) (by kernel_rfl) (fun _ => by kernel_rfl) hS47 ?_
  refine WDp (NPt (NPt hN)) 6 52 (.int .i64 (i : Int)) (by kernel_rfl) (fun _ => by kernel_rfl) hS47 ?_
  have hb49 : n ≤ c := by omega
  refine WD.slc (NPt (NPt hN)) 7 27 54 2 (some ⟨g, 0, none⟩) (some ⟨g, i * 2, none⟩) n c i n (n - i) (c - i) (some (.int .i64 (i : Int))) none 53 (by kernel_rfl) (by kernel_rfl) (by kernel_rfl) (bnd.yes (by omega)) bnd.no (by omega) hb49 (slcAt_blk (by omega) (by simp)) (by first | rfl | omega) (by first | rfl | omega) hS47 ?_
  obtain ⟨w50, hr51, hF52, hC53⟩ := copy_run Tryd.prog hC46 1 27 27 3 54 2 g26 ((i + 1) * 2) ((i + (n + 1 - i)) - (i + 1)) (c27 - (i + 1)) (n - i) (c - i) (n - i) (some ⟨g, i * 2, none⟩) ((L.drop (i * 2)).take ((n - i) * 2)) rfl rfl (by show min _ _ = _; omega) (by simp; omega) (srcOk.part (hC46.get 0 rfl)) (by simp; omega) (all_part h1 (by omega))
  have hS54 := hS47.trans hF52 (by simp)
  refine WD.sem 8 (Builtin.copy_ #[27, 27] 3 #[.slice (some ⟨g26, (i + 1) * 2, none⟩) ((i + (n + 1 - i)) - (i + 1)) (c27 - (i + 1)), .slice (some ⟨g, i * 2, none⟩) (n - i) (c - i)]) 54 (.int .i64 (((n - i) : Nat) : Int)) (by kernel_rfl) (by kernel_rfl) hr51 hS54 ?_
  refine WD.done (by kernel_rfl) ?_
  refine QXn (hK43 _ _ ?_)
  refine WCs (fun K55 hK56 => ?_)
  refine WCg (WLr 2 [(6, .slice (some ⟨g26, 0, none⟩) (i + (n + 1 - i)) c27), (55, .slice (some ⟨g26, 0, none⟩) (i + (n + 1 - i)) c27)] (fun _ => by kernel_rfl) (WLd rfl (QXn (hK56 _ _ ?_))))
  refine WC.ret ?_
  refine QXr ?_
  refine (hret _ _ _ rfl ?_).1
  clear hN hret hret' hK56 hK43 hK36 hK24 hK21 hK19 hK17 hK15 hK13 hK11 hK9 hK7 hK4 hK2
  refine ⟨_, rfl, hC53.fr, ?_, by intro y hy; simp [shut, blk, Value.ownBlock] at hy; omega⟩
  rw [show i + (n + 1 - i) = n + 1 from by omega]
  exact own_of_blk (Nat.zero_le _) (hC53.get 1 rfl) (by omega) hcm33 (by simp; omega) ((insAz 2 L2 [.int .u32 x.dip, .int .u32 x.vip] ((L.drop (i * 2)).take ((n - i) * 2)) i n rfl (by simp; omega) (by omega) hi).trans (by rw [hL2t]))
 ·
  have t22 : ((n : Int) + 1) ≤ (c : Int) := by have q_ := of_decide_eq_false t22b; omega
  refine WCf rfl (WC.skip (QXn (hK19 _ _ ?_)))
  refine WCs (fun K57 hK58 => ?_)
  refine WCg (WLr 4 [(59, .int .i64 (IntKind.i64.wrap ((n : Int) + 1))), (58, .int .i64 1), (57, .int .i64 (n : Int)), (56, .slice (some ⟨g, 0, none⟩) n c)] (fun _ => by kernel_rfl) ?_)
  refine WLt (show (.int .i64 (IntKind.i64.wrap ((n : Int) + 1)) : Value) = .int .i64 ((n : Int) + 1) from by rw [wrap_in_i64 ((n : Int) + 1) (by omega) (by omega)]) ?_
  have hb59 : n + 1 ≤ c := by omega
  refine WL.slc 27 54 2 (some ⟨g, 0, none⟩) (some ⟨g, 0, none⟩) n c 0 (n + 1) (n + 1) c none (some (.int .i64 ((n : Int) + 1))) 60 (by kernel_rfl) (by kernel_rfl) bnd.no (bnd.yes (by omega)) (by omega) hb59 (slcAt_pre _ _ _) (by first | rfl | omega) (by first | rfl | omega) ?_
  refine WLr 1 [(0, .slice (some ⟨g, 0, none⟩) (n + 1) c)] (fun _ => by kernel_rfl) (WLd rfl (QXn (hK58 _ _ ?_)))
  refine WCs (fun K60 hK61 => ?_)
  refine WCs (fun K62 hK63 => ?_)
  refine WCg (WLr 5 [(65, .int .i64 (IntKind.i64.wrap ((i : Int) + 1))), (64, .int .i64 1), (63, .int .i64 (i : Int)), (62, .slice (some ⟨g, 0, none⟩) (n + 1) c), (61, .slice (some ⟨b, 0, none⟩) 1 1)] (fun _ => by kernel_rfl) ?_)
  refine WLt (show (.int .i64 (IntKind.i64.wrap ((i : Int) + 1)) : Value) = .int .i64 ((i : Int) + 1) from by rw [wrap_in_i64 ((i : Int) + 1) (by omega) (by omega)]) ?_
  have hb64 : n + 1 ≤ c := by omega
  refine WL.slc 27 54 2 (some ⟨g, 0, none⟩) (some ⟨g, (i + 1) * 2, none⟩) (n + 1) c (i + 1) (n + 1) ((n + 1) - (i + 1)) (c - (i + 1)) (some (.int .i64 ((i : Int) + 1))) none 66 (by kernel_rfl) (by kernel_rfl) (bnd.yes (by omega)) bnd.no (by omega) hb64 (slcAt_blk (by omega) (by simp)) (by first | rfl | omega) (by first | rfl | omega) ?_
  refine WL.ext 94 #[.slice (some ⟨b, 0, none⟩) 1 1, .slice (some ⟨g, (i + 1) * 2, none⟩) ((n + 1) - (i + 1)) (c - (i + 1))] 67 (.bool false) (by kernel_rfl) (run_overlaps (fn := Tryd.f94) (tS := 27) (tR := 4) (e := 54) (sz := 2) rfl (by kernel_rfl) (by kernel_rfl) (by kernel_rfl) (by kernel_rfl) (by kernel_rfl) (hC.fr.has hb (by simpa using hne)) (hC.get 0 rfl) hne (by rw [List.size_toArray]; omega)) ?_
  refine WLr 1 [(68, .bool true)] (fun _ => by kernel_rfl) (WLd rfl (QXn (hK63 _ _ ?_)))
  refine WCt rfl ?_
  refine WCs (fun K65 hK66 => ?_)
  refine WC.drawC hC [g] (by kernel_rfl) (fun w67 hF68 hC69 hS70 => ?_)
  refine WDp (NPt (NPt hN)) 0 69 (.slice (some ⟨g, 0, none⟩) (n + 1) c) (by kernel_rfl) (fun _ => by kernel_rfl) hS70 ?_
  refine WDp (NPt (NPt hN)) 1 70 (.int .i64 (i : Int)) (by kernel_rfl) (fun _ => by kernel_rfl) hS70 ?_
  refine WDp (NPt (NPt hN)) 2 71 (.int .i64 1) (by kernel_rfl) (fun _ => by kernel_rfl) hS70 ?_
  refine WDp (NPt (NPt hN)) 3 72 (.int .i64 (IntKind.i64.wrap ((i : Int) + 1))) (by kernel_rfl) (fun _ => by kernel_rfl) hS70 ?_
  refine WD.recast (show (.int .i64 (IntKind.i64.wrap ((i : Int) + 1)) : Value) = .int .i64 ((i : Int) + 1) from by rw [wrap_in_i64 ((i : Int) + 1) (by omega) (by omega)]) ?_
  have hb71 : n + 1 ≤ c := by omega
  refine WD.slc (NPt (NPt hN)) 4 27 54 2 (some ⟨g, 0, none⟩) (some ⟨g, (i + 1) * 2, none⟩) (n + 1) c (i + 1) (n + 1) ((n + 1) - (i + 1)) (c - (i + 1)) (some (.int .i64 ((i : Int) + 1))) none 73 (by kernel_rfl) (by kernel_rfl) (by kernel_rfl) (bnd.yes (by omega)) bnd.no (by omega) hb71 (slcAt_blk (by omega) (by simp)) (by first | rfl | omega) (by first | rfl | omega) hS70 ?_
  refine WDp (NPt (NPt hN)) 5 74 (.slice (some ⟨g, 0, none⟩) (n + 1) c) (by kernel_rfl) (fun _ => by kernel_rfl) hS70 ?_
  refine WDp (NPt (NPt hN)) 6 75 (.int .i64 (i : Int)) (by kernel_rfl) (fun _ => by kernel_rfl) hS70 ?_
  have hb72 : n + 1 ≤ c := by omega
  refine WD.slc (NPt (NPt hN)) 7 27 54 2 (some ⟨g, 0, none⟩) (some ⟨g, i * 2, none⟩) (n + 1) c i (n + 1) ((n + 1) - i) (c - i) (some (.int .i64 (i : Int))) none 76 (by kernel_rfl) (by kernel_rfl) (by kernel_rfl) (bnd.yes (by omega)) bnd.no (by omega) hb72 (slcAt_blk (by omega) (by simp)) (by first | rfl | omega) (by first | rfl | omega) hS70 ?_
  obtain ⟨w73, hr74, hF75, hC76⟩ := copy_run Tryd.prog hC69 0 27 27 3 54 2 g ((i + 1) * 2) ((n + 1) - (i + 1)) (c - (i + 1)) ((n + 1) - i) (c - i) (n - i) (some ⟨g, i * 2, none⟩) ((L.drop (i * 2)).take ((n - i) * 2)) rfl rfl (by show min _ _ = _; omega) (by simp; omega) (srcOk.part (hC69.get 0 rfl)) (by simp; omega) (all_part h1 (by omega))
  have hS77 := hS70.trans hF75 (by simp)
  refine WD.sem 8 (Builtin.copy_ #[27, 27] 3 #[.slice (some ⟨g, (i + 1) * 2, none⟩) ((n + 1) - (i + 1)) (c - (i + 1)), .slice (some ⟨g, i * 2, none⟩) ((n + 1) - i) (c - i)]) 77 (.int .i64 (((n - i) : Nat) : Int)) (by kernel_rfl) (by kernel_rfl) hr74 hS77 ?_
  refine WD.done (by kernel_rfl) ?_
  refine QXn (hK66 _ _ ?_)
  refine WCs (fun K78 hK79 => ?_)
  refine WCg (WLr 2 [(79, .int .i64 (i : Int)), (78, .slice (some ⟨g, 0, none⟩) (n + 1) c)] (fun _ => by kernel_rfl) ?_)
  have hb80 : n + 1 ≤ c := by omega
  refine WL.slc 27 54 2 (some ⟨g, 0, none⟩) (some ⟨g, i * 2, none⟩) (n + 1) c i (n + 1) ((n + 1) - i) (c - i) (some (.int .i64 (i : Int))) none 80 (by kernel_rfl) (by kernel_rfl) (bnd.yes (by omega)) bnd.no (by omega) hb80 (slcAt_blk (by omega) (by simp)) (by first | rfl | omega) (by first | rfl | omega) ?_
  refine WLr 1 [(81, .slice (some ⟨b, 0, none⟩) 1 1)] (fun _ => by kernel_rfl) ?_
  obtain ⟨w81, hr82, hF83, hC84⟩ := copy_run Tryd.prog hC76 0 27 27 3 54 2 g (i * 2) ((n + 1) - i) (c - i) 1 1 1 (some ⟨b, 0, none⟩) [.int .u32 x.dip, .int .u32 x.vip] rfl rfl (by show min _ _ = _; omega) rfl (srcOk.blk 1 (hC76.fr.has hb (by simpa using hne))) (by simp; omega) rfl
  refine WL.sem (Builtin.copy_ #[27, 27] 3 #[.slice (some ⟨g, i * 2, none⟩) ((n + 1) - i) (c - i), .slice (some ⟨b, 0, none⟩) 1 1]) 82 (.int .i64 1) (by kernel_rfl) hr82 ?_
  refine WLd rfl (QXn (hK79 _ _ ?_))
  refine WCs (fun K85 hK86 => ?_)
  refine WCg (WLr 2 [(6, .slice (some ⟨g, 0, none⟩) (n + 1) c), (83, .slice (some ⟨g, 0, none⟩) (n + 1) c)] (fun _ => by kernel_rfl) (WLd rfl (QXn (hK86 _ _ ?_))))
  refine WC.ret ?_
  refine QXr ?_
  refine (hret _ _ _ rfl ?_).1
  exact ⟨_, rfl, hC84.fr, own_of_blk (Nat.zero_le _) (hC84.get 0 rfl) (by omega) hcm (by simp; omega) (insBz 2 L [.int .u32 x.dip, .int .u32 x.vip] ((L.drop (i * 2)).take ((n - i) * 2)) i n rfl (by simp; omega) (by omega) hi), by intro y hy; simp [shut, blk, Value.ownBlock] at hy; omega⟩

theorem InsEqN (A : Option Addr) (b n c : Nat) (xs : List SnatV) (x : SnatV) (w : World) (ho : w.ownsRow 0 54 2 (.slice A n c) n (xs.flatMap cellsN)) (hb : w.heap[b]? = some (.cells #[.int .u32 x.dip, .int .u32 x.vip] 54 (0, 0))) (hne : b ∉ blk (.slice A n c)) (hlim : n < 2 ^ 40) : Calls Tryd.prog 80 #[.slice A n c, .int .i64 (n : Int), .slice (some ⟨b, 0, none⟩) 1 1] w fun e w' => ∃ v, e = .returned v ∧ Fr w w' (blk (.slice A n c)) ∧ w'.ownsRow 0 54 2 v (n + 1) ((xs ++ [x]).flatMap cellsN) ∧ (∀ y ∈ blk v, y ∈ blk (.slice A n c) ∨ w.heap.size ≤ y) := by
 refine enterD (n := 95) Tryd.func80 rfl rfl (Nat.le_of_ble_eq_true rfl) ?_
 intro Q0 hN hret hret'
 have hle : n ≤ c := by obtain ⟨A_, c_, h1_, h2_⟩ := own_form ho; simp at h1_; omega
 have hC := Cx.start1 w (own_lt ho)
 refine WCs (fun K1 hK2 => ?_)
 refine WCg (WLr 1 [(6, .slice none 0 0)] (fun _ => by kernel_rfl) (WLd rfl (QXn (hK2 _ _ ?_))))
 refine WCs (fun K3 hK4 => ?_)
 refine WCg (WLr 2 [(11, .int .i64 (n : Int)), (10, .slice A n c)] (fun _ => by kernel_rfl) ?_)
 obtain ⟨A5, hA6⟩ : ∃ A_, slcAt A n c 2 = A_ := ⟨_, rfl⟩
 have hle_ := own_le ho
 have hb7 : n ≤ c := by omega
 refine WL.slc 27 54 2 A A5 n c n n (n - n) (c - n) (some (.int .i64 (n : Int))) none 12 (by kernel_rfl) (by kernel_rfl) (bnd.yes (by omega)) bnd.no (by omega) hb7 hA6 (by first | rfl | omega) (by first | rfl | omega) ?_
 refine WLd rfl (QXn (hK4 _ _ ?_))
 refine WCs (fun K8 hK9 => ?_)
 refine WCg (WLr 3 [(7, .int .i64 1), (14, .int .i64 1), (13, .slice (some ⟨b, 0, none⟩) 1 1)] (fun _ => by kernel_rfl) (WLd rfl (QXn (hK9 _ _ ?_))))
 refine WCs (fun K10 hK11 => ?_)
 refine WCs (fun K12 hK13 => ?_)
 refine WCg (WLr 2 [(16, .bool false), (15, .int .i64 1)] (fun _ => by kernel_rfl) (WLd rfl (QXn (hK13 _ _ ?_))))
 refine WCf rfl (WC.skip (QXn (hK11 _ _ ?_)))
 refine WCs (fun K14 hK15 => ?_)
 refine WCg (WLr 3 [(8, .int .i64 (n : Int)), (19, .int .i64 (n : Int)), (18, .slice A n c)] (fun _ => by kernel_rfl) (WLd rfl (QXn (hK15 _ _ ?_))))
 refine WCs (fun K16 hK17 => ?_)
 refine WCs (fun K18 hK19 => ?_)
 refine WCg (WLr 3 [(22, .bool ((n : Int) == (n : Int))), (21, .int .i64 (n : Int)), (20, .int .i64 (n : Int))] (fun _ => by kernel_rfl) (WLd rfl (QXn (hK19 _ _ ?_))))
 refine WC.know 22 (.bool ((n : Int) == (n : Int))) (.bool true) rfl (congrArg Value.bool (by simp)) ?_
 refine WCt rfl ?_
 refine WCs (fun K20 hK21 => ?_)
 refine WCg (WLr 2 [(24, .slice (some ⟨b, 0, none⟩) 1 1), (23, .slice A n c)] (fun _ => by kernel_rfl) ?_)
 obtain ⟨v22, w23, hr24, ho25, hF26, hC27, hnil28, hsub29⟩ := app_run Tryd.prog hC 0 (v := .slice A n c) rfl 27 27 54 2 8 n 1 1 (some ⟨b, 0, none⟩) rfl ho [.int .u32 x.dip, .int .u32 x.vip] rfl (srcOk.blk 1 (hC.fr.has hb hne)) rfl (by simp only [maxLen]; omega) (by omega)
 have ho33 := own_snoc (enc := cellsN) (ys := xs) x ho25
 obtain ⟨A30, c31, rfl, hle32⟩ := own_form ho33
 refine WL.sem (Builtin.append_ #[27, 27] 27 #[.slice A n c, .slice (some ⟨b, 0, none⟩) 1 1]) 25 (.slice A30 (n + 1) c31) (by kernel_rfl) hr24 ?_
 refine WLr 1 [(6, .slice A30 (n + 1) c31)] (fun _ => by kernel_rfl) (WLd rfl (QXn (hK21 _ _ ?_)))
 refine WC.ret ?_
 refine QXr ?_
 refine (hret _ _ _ rfl ?_).1
 exact ⟨_, rfl, hC27.fr, by simpa [shut] using ho33, hsub29⟩

theorem InsN_ct (A : Option Addr) (b n c i : Nat) (xs : List SnatV) (x : SnatV) (w : World) (ho : w.ownsRow 0 54 2 (.slice A n c) n (xs.flatMap cellsN)) (hb : w.heap[b]? = some (.cells #[.int .u32 x.dip, .int .u32 x.vip] 54 (0, 0))) (hne : b ∉ blk (.slice A n c)) (hi : i ≤ n) (hlim : n < 2 ^ 40) : Calls Tryd.prog 80 #[.slice A n c, .int .i64 (i : Int), .slice (some ⟨b, 0, none⟩) 1 1] w fun e w' => ∃ v, e = .returned v ∧ Fr w w' (blk (.slice A n c)) ∧ w'.ownsRow 0 54 2 v (n + 1) ((xs.take i ++ x :: xs.drop i).flatMap cellsN) ∧ (∀ y ∈ blk v, y ∈ blk (.slice A n c) ∨ w.heap.size ≤ y) := by
  have hcount := own_count cellsN_len (by decide) ho
  by_cases e : i = n
  · subst e
    refine (InsEqN A b i c xs x w ho hb hne hlim).mono fun e w' h => ?_
    rwa [← hcount, List.take_length, List.drop_length, hcount]
  · have hlt : i < n := by omega
    obtain ⟨g, cur, rfl, hg, hh, hnc, hcm, hsz, htk⟩ := own_blkd ho (by omega)
    have hbg : b ≠ g := by simpa [blk, Value.ownBlock] using hne
    have h1 : (cur.toList.take (n * 2)).all Value.oneCell' = true := by rw [htk]; exact flat_oneS cellsN_one _
    refine (InsLtN g b c n i cur.toList x w (by simpa using hh) hb hbg hlt hnc (by simpa using hsz) hcm h1 hlim).mono fun e w' h => ?_
    obtain ⟨v, he, hf, hown, hsub⟩ := h
    refine ⟨v, he, by simpa [blk, Value.ownBlock] using hf, ?_, by simpa [blk, Value.ownBlock] using hsub⟩
    have e1 : cur.toList.take (i * 2) = (xs.take i).flatMap cellsN := by rw [← flat_take cellsN_len, ← htk, List.take_take, Nat.min_eq_left (by omega)]
    have e2 : (cur.toList.drop (i * 2)).take ((n - i) * 2) = (xs.drop i).flatMap cellsN := by rw [← flat_drop cellsN_len, ← htk, List.drop_take]; congr 1; omega
    rw [e1, e2] at hown
    simpa [cellsN] using hown
theorem DelN (A : Option Addr) (n c i : Nat) (xs : List SnatV) (w : World) (ho : w.ownsRow 0 54 2 (.slice A n c) n (xs.flatMap cellsN)) (hi : i < n) (hlim : n < 2 ^ 40) : Calls Tryd.prog 79 #[.slice A n c, .int .i64 (i : Int), .int .i64 ((i : Int) + 1)] w fun e w' => e = .returned (.slice A (n - 1) c) ∧ Fr w w' (blk (.slice A n c)) ∧ w'.ownsRow 0 54 2 (.slice A (n - 1) c) (n - 1) ((xs.take i ++ xs.drop (i + 1)).flatMap cellsN) := by
 refine enterD (n := 33) Tryd.func79 rfl rfl (Nat.le_of_ble_eq_true rfl) ?_
 intro Q0 hN hret hret'
 have hC := Cx.start1 w (own_lt ho)
 have hle : n ≤ c := own_le ho
 have hcnt := own_count cellsN_len (by decide) ho
 refine WCs (fun K1 hK2 => ?_)
 refine WCg (WLr 1 [(6, .slice none 0 0)] (fun _ => by kernel_rfl) (WLd rfl (QXn (hK2 _ _ ?_))))
 refine WCs (fun K3 hK4 => ?_)
 refine WCg (WLr 5 [(12, .int .i64 (n : Int)), (11, .slice A n c), (10, .int .i64 ((i : Int) + 1)), (9, .int .i64 (i : Int)), (8, .slice A n c)] (fun _ => by kernel_rfl) ?_)
 have hr5 := fun w_ => run_slc3 (P := Tryd.prog) (w := w_) (t := 27) (e := 54) (sz := 2) (A := A) (nn := n) (c := c) (l := i) (h := i + 1) (m := n) (kl := .i64) (kh := .i64) (km := .i64) (il := (i : Int)) (ih := (i : Int) + 1) (im := (n : Int)) (by kernel_rfl) rfl (by omega) rfl (by omega) (by omega) (by omega)
 refine WL.sem (Instr.sliceAt 27 (.slice A n c) (some (.int .i64 (i : Int))) (some (.int .i64 ((i : Int) + 1))) (some (.int .i64 (n : Int)))) 13 (.slice (slcAt A i n 2) (i + 1 - i) (n - i)) (by kernel_rfl) (hr5 _) ?_
 refine WLd rfl (QXn (hK4 _ _ ?_))
 refine WCs (fun K6 hK7 => ?_)
 refine WCs (fun K8 hK9 => ?_)
 refine WCg (WLr 3 [(16, .bool ((i : Int) == ((i : Int) + 1))), (15, .int .i64 ((i : Int) + 1)), (14, .int .i64 (i : Int))] (fun _ => by kernel_rfl) (WLd rfl (QXn (hK9 _ _ ?_))))
 refine WC.know 16 (.bool ((i : Int) == ((i : Int) + 1))) (.bool false) rfl (congrArg Value.bool (by simp <;> omega)) ?_
 refine WCf rfl (WC.skip (QXn (hK7 _ _ ?_)))
 refine WCs (fun K10 hK11 => ?_)
 refine WCg (WLr 3 [(7, .int .i64 (n : Int)), (19, .int .i64 (n : Int)), (18, .slice A n c)] (fun _ => by kernel_rfl) (WLd rfl (QXn (hK11 _ _ ?_))))
 refine WCs (fun K12 hK13 => ?_)
 refine WC.drawC hC (blk (.slice A n c)) (by kernel_rfl) (fun w14 hF15 hC16 hS17 => ?_)
 have ho18 := own_fr ho hF15 (by simp)
 refine WDp (NPt hN) 0 20 (.slice A n c) (by kernel_rfl) (fun _ => by kernel_rfl) hS17 ?_
 refine WDp (NPt hN) 1 21 (.int .i64 (i : Int)) (by kernel_rfl) (fun _ => by kernel_rfl) hS17 ?_
 have hb19 : i ≤ c := by omega
 refine WD.slc (NPt hN) 2 27 54 2 A A n c 0 i i c none (some (.int .i64 (i : Int))) 22 (by kernel_rfl) (by kernel_rfl) (by kernel_rfl) bnd.no (bnd.yes (by omega)) (by omega) hb19 (slcAt_pre _ _ _) (by first | rfl | omega) (by first | rfl | omega) hS17 ?_
 refine WDp (NPt hN) 3 23 (.slice A n c) (by kernel_rfl) (fun _ => by kernel_rfl) hS17 ?_
 refine WDp (NPt hN) 4 24 (.int .i64 ((i : Int) + 1)) (by kernel_rfl) (fun _ => by kernel_rfl) hS17 ?_
 obtain ⟨A20, hA21⟩ : ∃ A_, slcAt A (i + 1) c 2 = A_ := ⟨_, rfl⟩
 have hb22 : n ≤ c := by omega
 refine WD.slc (NPt hN) 5 27 54 2 A A20 n c (i + 1) n (n - (i + 1)) (c - (i + 1)) (some (.int .i64 ((i : Int) + 1))) none 25 (by kernel_rfl) (by kernel_rfl) (by kernel_rfl) (bnd.yes (by omega)) bnd.no (by omega) hb22 hA21 (by first | rfl | omega) (by first | rfl | omega) hS17 ?_
 obtain ⟨Y23, w24, hr25, ho26, hY27, hF28, hC29⟩ := del_app (P := Tryd.prog) hC16 0 (t := 27) (ty := 27) (e := 54) (sz := 2) (bytes := 8) (i := i) (by kernel_rfl) rfl ho18 (flat_oneS cellsN_one _) hi hA21 (by simp only [maxLen]; omega) (by omega)
 have hS30 := hS17.trans hF28 (fun x_ hx_ => .inl hx_)
 refine WD.sem 6 (Builtin.append_ #[27, 27] 27 #[.slice A i c, .slice A20 (n - (i + 1)) (c - (i + 1))]) 26 (.slice A (n - 1 : Nat) c) (by kernel_rfl) (by kernel_rfl) hr25 hS30 ?_
 refine WDp (NPt hN) 7 0 (.slice A (n - 1 : Nat) c) (by kernel_rfl) (fun _ => by kernel_rfl) hS30 ?_
 refine WD.done (by kernel_rfl) ?_
 refine QXn (hK13 _ _ ?_)
 refine WCs (fun K31 hK32 => ?_)
 refine WCg (WLr 4 [(30, .int .i64 (n : Int)), (29, .int .i64 ((n - 1 : Nat) : Int)), (28, .slice A (n - 1 : Nat) c), (27, .slice A (n - 1 : Nat) c)] (fun _ => by kernel_rfl) ?_)
 obtain ⟨A33, hA34⟩ : ∃ A_, slcAt A (n - 1) c 2 = A_ := ⟨_, rfl⟩
 have hb35 : n ≤ c := by omega
 refine WL.slc 27 54 2 A A33 (n - 1 : Nat) c (n - 1) n (n - (n - 1)) (c - (n - 1)) (some (.int .i64 ((n - 1 : Nat) : Int))) (some (.int .i64 (n : Int))) 31 (by kernel_rfl) (by kernel_rfl) (bnd.yes (by omega)) (bnd.yes (by omega)) (by omega) hb35 hA34 (by first | rfl | omega) (by first | rfl | omega) ?_
 obtain ⟨w36, hr37, hF38, hC39, ho40⟩ := clear_run (P := Tryd.prog) hC29 0 (t := 27) (ty := 0) (e := 54) (sz := 2) (bytes := 8) (nn := n) (i := n - 1) (by kernel_rfl) (by kernel_rfl) rfl ho26 (by omega) hA34
 rw [hY27] at ho40
 refine WL.semN (Builtin.clear_ #[27] 0 #[.slice A33 (n - (n - 1)) (c - (n - 1))]) _ (by kernel_rfl) hr37 ?_
 refine WLd rfl (QXn (hK32 _ _ ?_))
 refine WCs (fun K41 hK42 => ?_)
 refine WCg (WLr 2 [(6, .slice A (n - 1 : Nat) c), (32, .slice A (n - 1 : Nat) c)] (fun _ => by kernel_rfl) (WLd rfl (QXn (hK42 _ _ ?_))))
 refine WC.ret ?_
 refine (hret _ _ _ rfl ?_).1
 clear hN hret hret' hK42 hK32 hK13 hK11 hK9 hK7 hK4 hK2
 rw [flat_take cellsN_len, flat_drop cellsN_len, ← List.flatMap_append] at ho40
 exact ⟨rfl, hC39.fr, ho40⟩

theorem putN_ct (A : Option Addr) (n c : Nat) (xs : List SnatV) (x : SnatV) (out : Bool) (w : World) (ho : w.ownsRow 0 54 2 (.slice A n c) n (xs.flatMap cellsN)) (hs : sortK kN xs) (hlim : n < 2 ^ 39) : Calls Tryd.prog 62 #[.slice A n c, .agg #[.int .u32 x.dip, .int .u32 x.vip], .func (.func 63) #[] #[], .bool out] w fun e w' => ∃ v, e = .returned (.tuple #[v, .bool (hasK kN (kN x) xs)]) ∧ Fr w w' (blk (.slice A n c)) ∧ w'.ownsRow 0 54 2 v (putK kN xs x out).length ((putK kN xs x out).flatMap cellsN) ∧ (∀ y ∈ blk v, y ∈ blk (.slice A n c) ∨ w.heap.size ≤ y) := by
 refine enterD (n := 44) Tryd.func62 rfl rfl (Nat.le_of_ble_eq_true rfl) ?_
 intro Q0 hN hret hret'
 have hC := Cx.start1 w (own_lt ho)
 have hle : n ≤ c := own_le ho
 have hcnt := own_count cellsN_len (by decide) ho
 have hrk := rank_le (κ := kN) (kN x) xs
 refine WCs (fun K1 hK2 => ?_)
 refine WCg ?_
 refine WL.newM hC (fun b => .pointer (some ⟨b, 0, none⟩)) (.cells #[.int .u32 x.dip, .int .u32 x.vip] 54) 5 (fun _ => by kernel_rfl) (fun g3 w4 hb7 hF5 hC6 => ?_)
 have ho8 := own_fr ho hF5 (by simp)
 refine WLr 2 [(9, .bool false), (8, .slice none 0 0)] (fun _ => by kernel_rfl) (WLd rfl (QXn (hK2 _ _ ?_)))
 refine WCs (fun K9 hK10 => ?_)
 refine WCg (WLr 1 [(13, .slice A n c)] (fun _ => by kernel_rfl) ?_)
 refine WL.load 54 (.pointer (some ⟨g3, 0, none⟩)) (.agg #[.int .u32 x.dip, .int .u32 x.vip]) 14 (by kernel_rfl) (run_ld (hC6.get 0 rfl) rfl) ?_
 refine WLr 1 [(15, .func (.func 63) #[] #[])] (fun _ => by kernel_rfl) ?_
 refine WLc rfl rfl rfl rfl rfl (by kernel_rfl) (BSFN_n A n c xs x w4 (own_rd ho8 cellsN_len (by decide)) (own_count cellsN_len (by decide) ho8) (hs) (by omega)) ?_
 rintro _ w12 ⟨rfl, hF11⟩
 refine ⟨_, rfl, ?_⟩
 have hC13 := hC6.call hF11
 have ho14 := own_fr ho8 hF11 (by simp)
 refine WLr 5 [(11, .bool (hasK kN (kN x) xs)), (10, .int .i64 (rankK kN (kN x) xs : Int)), (18, .bool (hasK kN (kN x) xs)), (17, .int .i64 (rankK kN (kN x) xs : Int)), (12, .tuple #[.int .i64 (rankK kN (kN x) xs : Int), .bool (hasK kN (kN x) xs)])] (fun _ => by kernel_rfl) (WLd rfl (QXn (hK10 _ _ ?_)))
 refine WCs (fun K15 hK16 => ?_)
 refine WC.block ?_
 refine WCs (fun K17 hK18 => ?_)
 refine WCg (WLr 2 [(21, .bool out), (20, .bool out)] (fun _ => by kernel_rfl) ?_)
 refine WLa 21 (out) rfl (fun t19b => ?_) (fun t19b => ?_)
 ·
  refine WLr 3 [(19, .bool (hasK kN (kN x) xs)), (23, .bool (hasK kN (kN x) xs)), (22, .bool (hasK kN (kN x) xs))] (fun _ => by kernel_rfl) (WLd rfl (QXn (hK18 _ _ ?_)))
  refine WCa 19 (hasK kN (kN x) xs) rfl (fun t20b => ?_) (fun t20b => ?_)
  ·
   refine WCt rfl ?_
   refine WCs (fun K21 hK22 => ?_)
   refine WCg (WLr 4 [(27, .int .i64 (IntKind.i64.wrap ((rankK kN (kN x) xs : Int) + 1))), (26, .int .i64 (rankK kN (kN x) xs : Int)), (25, .int .i64 (rankK kN (kN x) xs : Int)), (24, .slice A n c)] (fun _ => by kernel_rfl) ?_)
   refine WLt (show (.int .i64 (IntKind.i64.wrap ((rankK kN (kN x) xs : Int) + 1)) : Value) = .int .i64 ((rankK kN (kN x) xs : Int) + 1) from by rw [wrap_in_i64 ((rankK kN (kN x) xs : Int) + 1) (by first | omega | (have q_ := (has_lt (by assumption) hs).1; omega)) (by first | omega | (have q_ := (has_lt (by assumption) hs).1; omega))]) ?_
   refine WLc rfl rfl rfl rfl rfl (by kernel_rfl) (DelN A n c (rankK kN (kN x) xs) xs w12 ho14 (by have q_ := (has_lt t20b hs).1; omega) (by omega)) ?_
   rintro _ w26 ⟨rfl, hF24, ho23⟩
   have hC25 := hC13.callF 0 rfl hF24 (fun x_ hx_ => .inl (by rw [blk_n _ n c (n - 1) c]; exact hx_)) (own_lt ho23)
   refine ⟨_, rfl, ?_⟩
   refine WLr 2 [(9, .bool true), (8, .slice A (n - 1) c)] (fun _ => by kernel_rfl) (WLd rfl (QXn (hK22 _ _ ?_)))
   refine WC.ret ?_
   refine QXk ?_
   refine QXr ?_
   refine (hret _ _ _ rfl ?_).1
   clear hN hret hret' hK22 hK18 hK16 hK10 hK2
   have hp27 : putK kN xs x out = (xs.take (rankK kN (kN x) xs) ++ xs.drop ((rankK kN (kN x) xs) + 1)) := by unfold putK; rw [if_pos (show hasK kN (kN x) xs = true from t20b), if_pos t19b]; first | done | rfl
   have hn28 := own_count cellsN_len (by decide) ho23
   rw [hp27]
   exact ⟨_, by rw [t20b]; rfl, hC25.fr, by rw [hn28]; exact ho23, (fun y_ hy_ => .inl (by rw [blk_n _ n c (n - 1) c]; exact hy_))⟩
  ·
   refine WCf rfl ?_
   refine WCs (fun K29 hK30 => ?_)
   refine WCg (WLr 2 [(29, .bool out), (30, .bool out)] (fun _ => by kernel_rfl) (WLd rfl (QXn (hK30 _ _ ?_))))
   refine WC.know 29 (.bool out) (.bool true) rfl (congrArg Value.bool (by exact t19b)) ?_
   refine WCt rfl ?_
   refine WCs (fun K31 hK32 => ?_)
   refine WCg (WLr 3 [(9, .bool false), (8, .slice A n c), (31, .slice A n c)] (fun _ => by kernel_rfl) (WLd rfl (QXn (hK32 _ _ ?_))))
   refine WC.ret ?_
   refine QXk ?_
   refine QXr ?_
   refine (hret _ _ _ rfl ?_).1
   clear hN hret hret' hK32 hK30 hK18 hK16 hK10 hK2
   have hp33 : putK kN xs x out = xs := by unfold putK; rw [if_neg (by rw [show hasK kN (kN x) xs = false from t20b]; decide), if_pos t19b]; first | done | rfl
   have hn34 := own_count cellsN_len (by decide) ho14
   rw [hp33]
   exact ⟨_, by rw [t20b]; rfl, hC13.fr, by rw [hn34]; exact ho14, (fun y_ hy_ => .inl hy_)⟩
 ·
  refine WLr 3 [(19, .bool false), (23, .bool false), (22, undef)] (fun _ => by kernel_rfl) (WLd rfl (QXn (hK18 _ _ ?_)))
  refine WCf rfl ?_
  refine WCs (fun K35 hK36 => ?_)
  refine WCg (WLr 2 [(29, .bool out), (30, .bool out)] (fun _ => by kernel_rfl) (WLd rfl (QXn (hK36 _ _ ?_))))
  refine WC.know 29 (.bool out) (.bool false) rfl (congrArg Value.bool (by exact t19b)) ?_
  refine WCf rfl ?_
  refine WCs (fun K37 hK38 => ?_)
  refine WCg (WLr 2 [(32, .bool (hasK kN (kN x) xs)), (33, .bool (hasK kN (kN x) xs))] (fun _ => by kernel_rfl) (WLd rfl (QXn (hK38 _ _ ?_))))
  refine WCa 32 (hasK kN (kN x) xs) rfl (fun t39b => ?_) (fun t39b => ?_)
  ·
   refine WCt rfl ?_
   refine WCs (fun K40 hK41 => ?_)
   refine WCg (WLr 2 [(35, .int .i64 (rankK kN (kN x) xs : Int)), (34, .slice A n c)] (fun _ => by kernel_rfl) ?_)
   refine WL.load 54 (.pointer (some ⟨g3, 0, none⟩)) (.agg #[.int .u32 x.dip, .int .u32 x.vip]) 36 (by kernel_rfl) (run_ld (hC13.get 0 rfl) rfl) ?_
   have hn46 := own_count cellsN_len (by decide) ho14
   obtain ⟨e42, he43⟩ := get_some (xs := xs) (i := (rankK kN (kN x) xs)) (by first | omega | (have q_ := (has_lt (by assumption) hs).1; omega))
   obtain ⟨b44, hA45⟩ := own_addr (by decide) cellsN_len ho14 he43
   refine WLi A n c 37 .i64 (rankK kN (kN x) xs : Int) b44 0 (rankK kN (kN x) xs) 2 (by kernel_rfl) hA45 (by first | omega | (have q_ := (has_lt (by assumption) hs).1; omega)) (by first | omega | (have q_ := (has_lt (by assumption) hs).1; omega)) ((rankK kN (kN x) xs) * 2) (by first | (simp; done) | omega) ?_
   obtain ⟨w47, hr48, hF49, ho51, hC50⟩ := stoE_run Tryd.prog cellsN_len hC13 0 hA45 rfl ho14 (rankK kN (kN x) xs) 0 (x := e42) he43 x [.int .u32 x.dip, .int .u32 x.vip] rfl 54 (.agg #[.int .u32 x.dip, .int .u32 x.vip]) ((rankK kN (kN x) xs) * 2) rfl rfl rfl (by first | rfl | simp [Nat.add_assoc])
   refine WL.semU (Instr.storeAt 54 (.pointer (some ⟨b44, (rankK kN (kN x) xs) * 2, none⟩)) (.agg #[.int .u32 x.dip, .int .u32 x.vip])) (by kernel_rfl) hr48 ?_
   refine WLd rfl (QXn (hK41 _ _ ?_))
   refine WCs (fun K52 hK53 => ?_)
   refine WCg (WLr 3 [(9, .bool true), (8, .slice A n c), (38, .slice A n c)] (fun _ => by kernel_rfl) (WLd rfl (QXn (hK53 _ _ ?_))))
   refine WC.ret ?_
   refine QXk ?_
   refine QXr ?_
   refine (hret _ _ _ rfl ?_).1
   clear hN hret hret' hK53 hK41 hK38 hK36 hK18 hK16 hK10 hK2
   have hp54 : putK kN xs x out = xs.set (rankK kN (kN x) xs) x := by unfold putK; rw [if_pos (show hasK kN (kN x) xs = true from t39b), if_neg (by rw [t19b]; decide)]; first | done | rfl
   have hn55 := own_count cellsN_len (by decide) ho51
   rw [hp54]
   exact ⟨_, by rw [t39b]; rfl, hC50.fr, by rw [hn55]; exact ho51, (fun y_ hy_ => .inl hy_)⟩
  ·
   refine WCf rfl (WC.skip ?_)
   refine QXb ?_
   refine QXn (hK16 _ _ ?_)
   refine WCs (fun K56 hK57 => ?_)
   refine WCg (WLr 2 [(40, .int .i64 (rankK kN (kN x) xs : Int)), (39, .slice A n c)] (fun _ => by kernel_rfl) ?_)
   refine WL.load 54 (.pointer (some ⟨g3, 0, none⟩)) (.agg #[.int .u32 x.dip, .int .u32 x.vip]) 41 (by kernel_rfl) (run_ld (hC13.get 0 rfl) rfl) ?_
   refine WL.newM hC13 (fun b => .slice (some ⟨b, 0, none⟩) 1 1) (.cells #[.int .u32 x.dip, .int .u32 x.vip] 54) 42 (fun _ => by kernel_rfl) (fun g58 w59 hb62 hF60 hC61 => ?_)
   have ho63 := own_fr ho14 hF60 (by simp)
   have hcnt_ := own_count cellsN_len (by decide) ho63
   refine WLc rfl rfl rfl rfl rfl (by kernel_rfl) (InsN_ct A g58 n c (rankK kN (kN x) xs) xs x w59 ho63 (hC61.get 1 rfl) (hC61.notin 0 1 rfl rfl) (by have q_ := rank_le (κ := kN) (kN x) xs; omega) (by omega)) ?_
   rintro _ w68 ⟨v_, rfl, hF66, ho64, hsub65⟩
   have hC67 := hC61.callF 0 rfl hF66 hsub65 (own_lt ho64)
   obtain ⟨A69, c70, rfl, hle71⟩ := own_form ho64
   refine ⟨_, rfl, ?_⟩
   refine WLr 2 [(9, .bool false), (8, .slice A69 (n + 1) c70)] (fun _ => by kernel_rfl) (WLd rfl (QXn (hK57 _ _ ?_)))
   refine WC.ret ?_
   refine (hret _ _ _ rfl ?_).1
   clear hN hret hret' hK57 hK38 hK36 hK18 hK16 hK10 hK2
   have hp72 : putK kN xs x out = (xs.take (rankK kN (kN x) xs) ++ x :: xs.drop (rankK kN (kN x) xs)) := by unfold putK; rw [if_neg (by rw [show hasK kN (kN x) xs = false from t39b]; decide), if_neg (by rw [t19b]; decide)]; first | done | rfl
   have hn73 := own_count cellsN_len (by decide) ho64
   rw [hp72]
   exact ⟨_, by rw [t39b]; rfl, hC67.fr, by rw [hn73]; exact ho64, (fun y_ hy_ => (hsub65 y_ hy_).imp id (fun h_ => Nat.le_trans hC61.fr.size h_))⟩

theorem BSFA (A : Option Addr) (c : Nat) (xs : List Int) (l : Int) (w : World) (hr : Rd w 1 (Go.Tw.encI .u32) A xs) (hs : sortK kA xs) (hm : xs.length < 2 ^ 40) : Calls Tryd.prog 81 #[.slice A xs.length c, .int .u32 l, .func (.func 54) #[] #[]] w fun e w' => e = .returned (.tuple #[.int .i64 (rankK kA (kA l) xs : Int), .bool (hasK kA (kA l) xs)]) ∧ Fr w w' [] := by
 refine enterD (n := 49) Tryd.func81 rfl rfl (Nat.le_of_ble_eq_true rfl) ?_
 intro Q0 hN hret hret'
 have hC := Cx.start w
 refine WCs (fun K1 hK2 => ?_)
 refine WCg (WLr 2 [(7, .bool false), (6, .int .i64 0)] (fun _ => by kernel_rfl) (WLd rfl (QXn (hK2 _ _ ?_))))
 refine WCs (fun K3 hK4 => ?_)
 refine WCg (WLr 3 [(8, .int .i64 (xs.length : Int)), (13, .int .i64 (xs.length : Int)), (12, .slice A xs.length c)] (fun _ => by kernel_rfl) (WLd rfl (QXn (hK4 _ _ ?_))))
 refine WCs (fun K5 hK6 => ?_)
 refine WCg (WLr 3 [(10, .int .i64 (xs.length : Int)), (9, .int .i64 0), (14, .int .i64 (xs.length : Int))] (fun _ => by kernel_rfl) (WLd rfl (QXn (hK6 _ _ ?_))))
 refine WCs (fun K7 hK8 => ?_)
 refine WC.block ?_
 refine WC.loop (fun m_ E_ w_ => ∃ (i j : Nat), m_ = j - i ∧ E_ = [(0, .slice A xs.length c), (1, .int .u32 l), (2, .func (.func 54) #[] #[]), (6, .int .i64 0), (7, .bool false), (8, .int .i64 (xs.length : Int)), (9, .int .i64 (i : Int)), (10, .int .i64 (j : Int)), (12, .slice A xs.length c), (13, .int .i64 (xs.length : Int)), (14, .int .i64 (xs.length : Int))] ∧ Cx w [] w_ [] [] ∧ (i ≤ j ∧ j ≤ xs.length ∧ (∀ q y, q < i → xs[q]? = some y → lt3 (kA y) (kA l) = true) ∧ (∀ q y, j ≤ q → xs[q]? = some y → lt3 (kA y) (kA l) = false))) ⟨_, _, ⟨0, xs.length, rfl, rfl, hC, Nat.zero_le _, Nat.le_refl _, fun q y hq => by omega, fun q y hq hy => by have := (List.getElem?_eq_some_iff.1 hy).1; omega⟩, sub_of ⟨rfl, rfl, rfl, rfl, rfl, rfl, rfl, rfl, rfl, rfl, rfl, trivial⟩⟩ (fun m12 E_ w13 K9 hK10 hI11 => ?_)
 obtain ⟨i, j, rfl, rfl, hC14, hij, hj, hlo, hhi⟩ := hI11
 refine WCs (fun K15 hK16 => ?_)
 refine WCs (fun K17 hK18 => ?_)
 refine WCg (WLr 3 [(17, .bool (decide ((i : Int) < (j : Int)))), (16, .int .i64 (j : Int)), (15, .int .i64 (i : Int))] (fun _ => by kernel_rfl) (WLd rfl (QXn (hK18 _ _ ?_))))
 refine WCa 17 (decide ((i : Int) < (j : Int))) rfl (fun t19b => ?_) (fun t19b => ?_)
 ·
  have t19 : (i : Int) < (j : Int) := by have q_ := of_decide_eq_true t19b; omega
  refine WCt rfl ?_
  refine WC.skip ?_
  refine QXn (hK16 _ _ ?_)
  refine WC.block ?_
  refine WCs (fun K20 hK21 => ?_)
  refine WCg (WLr 3 [(20, .int .i64 (IntKind.i64.wrap ((i : Int) + (j : Int)))), (19, .int .i64 (j : Int)), (18, .int .i64 (i : Int))] (fun _ => by kernel_rfl) ?_)
  refine WLt (show (.int .i64 (IntKind.i64.wrap ((i : Int) + (j : Int))) : Value) = .int .i64 ((i : Int) + (j : Int)) from by rw [wrap_in_i64 ((i : Int) + (j : Int)) (by omega) (by omega)]) ?_
  refine WLr 1 [(21, .int .u64 (IntKind.u64.wrap ((i : Int) + (j : Int))))] (fun _ => by kernel_rfl) ?_
  refine WLt (show (.int .u64 (IntKind.u64.wrap ((i : Int) + (j : Int))) : Value) = .int .u64 ((i : Int) + (j : Int)) from by rw [wrap_in_u64 ((i : Int) + (j : Int)) (by omega) (by omega)]) ?_
  refine WLr 1 [(22, .int .u64 (((i : Int) + (j : Int)).fdiv (2 ^ 1)))] (fun _ => by kernel_rfl) ?_
  refine WLt (show (.int .u64 (((i : Int) + (j : Int)).fdiv (2 ^ 1)) : Value) = .int .u64 (((i : Int) + (j : Int)) / 2) from by rw [Int.fdiv_eq_ediv_of_nonneg ((i : Int) + (j : Int)) (by decide)]; rfl) ?_
  refine WLr 1 [(23, .int .i64 (IntKind.i64.wrap (((i : Int) + (j : Int)) / 2)))] (fun _ => by kernel_rfl) ?_
  refine WLt (show (.int .i64 (IntKind.i64.wrap (((i : Int) + (j : Int)) / 2)) : Value) = .int .i64 (((i + j) / 2 : Nat) : Int) from by rw [wrap_in_i64 _ (by omega) (by omega)]; congr 1) ?_
  refine WLr 1 [(11, .int .i64 (((i + j) / 2 : Nat) : Int))] (fun _ => by kernel_rfl) (WLd rfl (QXn (hK21 _ _ ?_)))
  refine WCs (fun K22 hK23 => ?_)
  refine WCg (WLr 3 [(26, .int .i64 (((i + j) / 2 : Nat) : Int)), (25, .slice A xs.length c), (24, .func (.func 54) #[] #[])] (fun _ => by kernel_rfl) ?_)
  obtain ⟨e24, he25⟩ := get_some (xs := xs) (i := (((i + j) / 2 : Nat) : Int).toNat) (by omega)
  obtain ⟨b26, o28, hA27, hc29⟩ := hr.at_ _ _ he25
  refine WLi A xs.length c 27 .i64 (((i + j) / 2 : Nat) : Int) b26 o28 ((((i + j) / 2 : Nat) : Int).toNat) 1 (by kernel_rfl) hA27 (by omega) (by omega) (o28 + ((((i + j) / 2 : Nat) : Int).toNat)) (by first | (simp; done) | omega) ?_
  refine WL.load 41 (.pointer (some ⟨b26, o28 + ((((i + j) / 2 : Nat) : Int).toNat), none⟩)) (.int .u32 e24) 28 (by kernel_rfl) (run_load1 rfl (by simpa [Nat.add_assoc] using hC14.fr.cell (hc29 0 _ rfl) (by simp))) ?_
  refine WLr 1 [(29, .int .u32 l)] (fun _ => by kernel_rfl) ?_
  refine WLc rfl rfl rfl rfl rfl (by kernel_rfl) (byAddr_ct e24 l w13) ?_
  rintro _ w31 ⟨rfl, hF30⟩
  refine ⟨_, rfl, ?_⟩
  have hC32 := hC14.call hF30
  refine WLr 1 [(31, .bool (decide ((cmp3 (kA e24) (kA l)) < 0)))] (fun _ => by kernel_rfl) (WLd rfl (QXn (hK23 _ _ ?_)))
  refine WCa 31 (decide ((cmp3 (kA e24) (kA l)) < 0)) rfl (fun t33b => ?_) (fun t33b => ?_)
  ·
   have t33 : (cmp3 (kA e24) (kA l)) < 0 := by have q_ := of_decide_eq_true t33b; omega
   refine WCt rfl ?_
   refine WCg (WLr 2 [(33, .int .i64 (IntKind.i64.wrap ((((i + j) / 2 : Nat) : Int) + 1))), (32, .int .i64 (((i + j) / 2 : Nat) : Int))] (fun _ => by kernel_rfl) ?_)
   refine WLt (show (.int .i64 (IntKind.i64.wrap ((((i + j) / 2 : Nat) : Int) + 1)) : Value) = .int .i64 ((((i + j) / 2 : Nat) : Int) + 1) from by rw [wrap_in_i64 ((((i + j) / 2 : Nat) : Int) + 1) (by omega) (by omega)]) ?_
   refine WLr 1 [(9, .int .i64 ((((i + j) / 2 : Nat) : Int) + 1))] (fun _ => by kernel_rfl) ?_
   refine WLd rfl ?_
   refine QXb ?_
   refine QXn ?_
   have hC34 := hC32.pick [] [] rfl rfl
   refine fun a_ ha_ => hK10 _ _ _ ?_ ⟨((i + j) / 2) + 1, j, rfl, rfl, hC34, by omega, by omega, bsK_lo hs he25 (cmp3_lt.1 t33), hhi⟩ a_ (ha_.weaken (sub_of ⟨rfl, rfl, rfl, rfl, rfl, rfl, rfl, rfl, rfl, rfl, rfl, trivial⟩))
   omega
  ·
   have t33 : (0 : Int) ≤ (cmp3 (kA e24) (kA l)) := by have q_ := of_decide_eq_false t33b; omega
   refine WCf rfl ?_
   refine WCg (WLr 2 [(10, .int .i64 (((i + j) / 2 : Nat) : Int)), (34, .int .i64 (((i + j) / 2 : Nat) : Int))] (fun _ => by kernel_rfl) ?_)
   refine WLd rfl ?_
   refine QXb ?_
   refine QXn ?_
   have hC35 := hC32.pick [] [] rfl rfl
   refine fun a_ ha_ => hK10 _ _ _ ?_ ⟨i, (((i + j) / 2 : Nat) : Int).toNat, rfl, rfl, hC35, by omega, by omega, hlo, bsK_hi hs he25 (cmp3_not (by omega))⟩ a_ (ha_.weaken (sub_of ⟨rfl, rfl, rfl, rfl, rfl, rfl, rfl, rfl, rfl, rfl, rfl, trivial⟩))
   omega
 ·
  have t19 : (j : Int) ≤ (i : Int) := by have q_ := of_decide_eq_false t19b; omega
  refine WCf rfl ?_
  refine WC.exit ?_
  refine QXe ?_
  refine QXe ?_
  refine QX.block_hit ?_
  refine QXn (hK8 _ _ ?_)
  refine WCs (fun K36 hK37 => ?_)
  refine WCg (WLr 5 [(39, .bool (decide ((i : Int) < (xs.length : Int)))), (38, .bool (decide ((i : Int) < (xs.length : Int)))), (37, .int .i64 (xs.length : Int)), (36, .int .i64 (i : Int)), (35, .int .i64 (i : Int))] (fun _ => by kernel_rfl) ?_)
  refine WLa 39 (decide ((i : Int) < (xs.length : Int))) rfl (fun t38b => ?_) (fun t38b => ?_)
  ·
   have t38 : (i : Int) < (xs.length : Int) := by have q_ := of_decide_eq_true t38b; omega
   refine WLr 3 [(42, .int .i64 (i : Int)), (41, .slice A xs.length c), (40, .func (.func 54) #[] #[])] (fun _ => by kernel_rfl) ?_
   obtain ⟨e39, he40⟩ := get_some (xs := xs) (i := i) (by omega)
   obtain ⟨b41, o43, hA42, hc44⟩ := hr.at_ _ _ he40
   refine WLi A xs.length c 43 .i64 (i : Int) b41 o43 i 1 (by kernel_rfl) hA42 (by omega) (by omega) (o43 + i) (by first | (simp; done) | omega) ?_
   refine WL.load 41 (.pointer (some ⟨b41, o43 + i, none⟩)) (.int .u32 e39) 44 (by kernel_rfl) (run_load1 rfl (by simpa [Nat.add_assoc] using hC14.fr.cell (hc44 0 _ rfl) (by simp))) ?_
   refine WLr 1 [(45, .int .u32 l)] (fun _ => by kernel_rfl) ?_
   refine WLc rfl rfl rfl rfl rfl (by kernel_rfl) (byAddr_ct e39 l w13) ?_
   rintro _ w46 ⟨rfl, hF45⟩
   refine ⟨_, rfl, ?_⟩
   have hC47 := hC14.call hF45
   refine WLr 4 [(7, .bool ((cmp3 (kA e39) (kA l)) == 0)), (6, .int .i64 (i : Int)), (48, .bool ((cmp3 (kA e39) (kA l)) == 0)), (47, .bool ((cmp3 (kA e39) (kA l)) == 0))] (fun _ => by kernel_rfl) (WLd rfl (QXn (hK37 _ _ ?_)))
   refine WC.ret ?_
   refine (hret _ _ _ rfl ?_).1
   clear hN hret hret' hK37 hK18 hK16 hK8 hK6 hK4 hK2
   have e_ : i = j := by omega
   subst e_
   have hr_ := rank_of hj hlo hhi
   exact ⟨by rw [hr_]; exact congrArg (fun b_ => Ending.returned (.tuple #[.int .i64 (i : Int), .bool b_])) (by rw [has_at hhi hlo hs he40]), hC47.fr⟩
  ·
   have t38 : (xs.length : Int) ≤ (i : Int) := by have q_ := of_decide_eq_false t38b; omega
   refine WLr 11 [(7, .bool false), (6, .int .i64 (i : Int)), (48, .bool false), (47, undef), (46, undef), (45, undef), (44, undef), (43, undef), (42, undef), (41, undef), (40, undef)] (fun _ => by kernel_rfl) (WLd rfl (QXn (hK37 _ _ ?_)))
   refine WC.ret ?_
   refine (hret _ _ _ rfl ?_).1
   clear hN hret hret' hK37 hK18 hK16 hK8 hK6 hK4 hK2
   have e_ : i = j := by omega
   subst e_
   have hr_ := rank_of hj hlo hhi
   exact ⟨by rw [hr_]; exact congrArg (fun b_ => Ending.returned (.tuple #[.int .i64 (i : Int), .bool b_])) (by rw [has_end hlo (by omega)]), hC14.fr⟩

theorem BSFA_n (A : Option Addr) (n c : Nat) (xs : List Int) (l : Int) (w : World) (hr : Rd w 1 (Go.Tw.encI .u32) A xs) (hn : xs.length = n) (hs : sortK kA xs) (hm : n < 2 ^ 40) : Calls Tryd.prog 81 #[.slice A n c, .int .u32 l, .func (.func 54) #[] #[]] w fun e w' => e = .returned (.tuple #[.int .i64 (rankK kA (kA l) xs : Int), .bool (hasK kA (kA l) xs)]) ∧ Fr w w' [] := by subst hn; exact BSFA A c xs l w hr hs hm
theorem InsLtA (g b c n i : Nat) (L : List Value) (x : Int) (w : World) (hg : w.heap[g]? = some (.cells L.toArray 41 (0, 0))) (hb : w.heap[b]? = some (.cells #[.int .u32 x] 41 (0, 0))) (hne : b ≠ g) (hi : i < n) (hnc : n ≤ c) (hL : L.length = c * 1) (hcm : c ≤ maxLen) (h1 : (L.take (n * 1)).all Value.oneCell' = true) (hlim : n < 2 ^ 40) : Calls Tryd.prog 83 #[.slice (some ⟨g, 0, none⟩) n c, .int .i64 (i : Int), .slice (some ⟨b, 0, none⟩) 1 1] w fun e w' => ∃ v, e = .returned v ∧ Fr w w' [g] ∧ w'.ownsRow 0 41 1 v (n + 1) (L.take (i * 1) ++ [.int .u32 x] ++ (L.drop (i * 1)).take ((n - i) * 1)) ∧ (∀ y ∈ blk v, y = g ∨ w.heap.size ≤ y) := by
 refine enterD (n := 95) Tryd.func83 rfl rfl (Nat.le_of_ble_eq_true rfl) ?_
 intro Q0 hN hret hret'
 have hC := Cx.startM hg
 refine WCs (fun K1 hK2 => ?_)
 refine WCg (WLr 1 [(6, .slice none 0 0)] (fun _ => by kernel_rfl) (WLd rfl (QXn (hK2 _ _ ?_))))
 refine WCs (fun K3 hK4 => ?_)
 refine WCg (WLr 2 [(11, .int .i64 (i : Int)), (10, .slice (some ⟨g, 0, none⟩) n c)] (fun _ => by kernel_rfl) ?_)
 have hb5 : n ≤ c := by omega
 refine WL.slc 28 41 1 (some ⟨g, 0, none⟩) (some ⟨g, i, none⟩) n c i n (n - i) (c - i) (some (.int .i64 (i : Int))) none 12 (by kernel_rfl) (by kernel_rfl) (bnd.yes (by omega)) bnd.no (by omega) hb5 (slcAt_blk (by omega) (by simp)) (by first | rfl | omega) (by first | rfl | omega) ?_
 refine WLd rfl (QXn (hK4 _ _ ?_))
 refine WCs (fun K6 hK7 => ?_)
 refine WCg (WLr 3 [(7, .int .i64 1), (14, .int .i64 1), (13, .slice (some ⟨b, 0, none⟩) 1 1)] (fun _ => by kernel_rfl) (WLd rfl (QXn (hK7 _ _ ?_))))
 refine WCs (fun K8 hK9 => ?_)
 refine WCs (fun K10 hK11 => ?_)
 refine WCg (WLr 2 [(16, .bool false), (15, .int .i64 1)] (fun _ => by kernel_rfl) (WLd rfl (QXn (hK11 _ _ ?_))))
 refine WCf rfl (WC.skip (QXn (hK9 _ _ ?_)))
 refine WCs (fun K12 hK13 => ?_)
 refine WCg (WLr 3 [(8, .int .i64 (n : Int)), (19, .int .i64 (n : Int)), (18, .slice (some ⟨g, 0, none⟩) n c)] (fun _ => by kernel_rfl) (WLd rfl (QXn (hK13 _ _ ?_))))
 refine WCs (fun K14 hK15 => ?_)
 refine WCs (fun K16 hK17 => ?_)
 refine WCg (WLr 3 [(22, .bool ((i : Int) == (n : Int))), (21, .int .i64 (n : Int)), (20, .int .i64 (i : Int))] (fun _ => by kernel_rfl) (WLd rfl (QXn (hK17 _ _ ?_))))
 refine WC.know 22 (.bool ((i : Int) == (n : Int))) (.bool false) rfl (congrArg Value.bool (by simp; omega)) ?_
 refine WCf rfl (WC.skip (QXn (hK15 _ _ ?_)))
 refine WCs (fun K18 hK19 => ?_)
 refine WCs (fun K20 hK21 => ?_)
 refine WCg (WLr 3 [(28, .int .i64 (IntKind.i64.wrap ((n : Int) + 1))), (27, .int .i64 1), (26, .int .i64 (n : Int))] (fun _ => by kernel_rfl) ?_)
 refine WLt (show (.int .i64 (IntKind.i64.wrap ((n : Int) + 1)) : Value) = .int .i64 ((n : Int) + 1) from by rw [wrap_in_i64 ((n : Int) + 1) (by omega) (by omega)]) ?_
 refine WLr 3 [(31, .bool (decide (((n : Int) + 1) > (c : Int)))), (30, .int .i64 (c : Int)), (29, .slice (some ⟨g, 0, none⟩) n c)] (fun _ => by kernel_rfl) (WLd rfl (QXn (hK21 _ _ ?_)))
 refine WCa 31 (decide (((n : Int) + 1) > (c : Int))) rfl (fun t22b => ?_) (fun t22b => ?_)
 ·
  have t22 : (c : Int) < ((n : Int) + 1) := by have q_ := of_decide_eq_true t22b; omega
  refine WCt rfl ?_
  refine WCs (fun K23 hK24 => ?_)
  refine WCg (WLr 2 [(33, .int .i64 (i : Int)), (32, .slice (some ⟨g, 0, none⟩) n c)] (fun _ => by kernel_rfl) ?_)
  have hb25 : i ≤ c := by omega
  refine WL.slc 28 41 1 (some ⟨g, 0, none⟩) (some ⟨g, 0, none⟩) n c 0 i i c none (some (.int .i64 (i : Int))) 34 (by kernel_rfl) (by kernel_rfl) bnd.no (bnd.yes (by omega)) (by omega) hb25 (slcAt_pre _ _ _) (by first | rfl | omega) (by first | rfl | omega) ?_
  refine WLr 3 [(37, .int .i64 (IntKind.i64.wrap ((n : Int) + 1))), (36, .int .i64 1), (35, .int .i64 (n : Int))] (fun _ => by kernel_rfl) ?_
  refine WLt (show (.int .i64 (IntKind.i64.wrap ((n : Int) + 1)) : Value) = .int .i64 ((n : Int) + 1) from by rw [wrap_in_i64 ((n : Int) + 1) (by omega) (by omega)]) ?_
  refine WLr 2 [(39, .int .i64 (IntKind.i64.wrap (((n : Int) + 1) - (i : Int)))), (38, .int .i64 (i : Int))] (fun _ => by kernel_rfl) ?_
  refine WLt (show (.int .i64 (IntKind.i64.wrap (((n : Int) + 1) - (i : Int))) : Value) = .int .i64 (((n : Int) + 1) - (i : Int)) from by rw [wrap_in_i64 (((n : Int) + 1) - (i : Int)) (by omega) (by omega)]) ?_
  obtain ⟨g26, c27, w28, hr29, hge30, hF31, hn32, hcm33, hC34⟩ := appZ_run Tryd.prog hC 28 3 28 41 1 4 i c (n + 1 - i) (z := (.int .u32 0)) (xs := (L.drop 0).take (i * 1)) rfl rfl (by kernel_rfl) (by decide) (by simp; omega) (srcOk.part (hC.get 0 rfl)) (by omega) (by omega) (by omega) (((n : Int) + 1) - (i : Int)) (by omega)
  have hL2l : ((L.drop 0).take (i * 1) ++ (Builtin.zeroCells (.int .u32 0 : Value).cells (n + 1 - i)).toList ++ (Builtin.zeroCells (.int .u32 0 : Value).cells (c27 - (i + (n + 1 - i)))).toList).length = c27 * 1 := by simp [size_zeroCells, Value.cells]; omega
  have hL2t : ((L.drop 0).take (i * 1) ++ (Builtin.zeroCells (.int .u32 0 : Value).cells (n + 1 - i)).toList ++ (Builtin.zeroCells (.int .u32 0 : Value).cells (c27 - (i + (n + 1 - i)))).toList).take (i * 1) = L.take (i * 1) := by rw [List.append_assoc, List.take_append_of_le_length (by simp; omega)]; simp [List.take_take]
  generalize hL2 : ((L.drop 0).take (i * 1) ++ (Builtin.zeroCells (.int .u32 0 : Value).cells (n + 1 - i)).toList ++ (Builtin.zeroCells (.int .u32 0 : Value).cells (c27 - (i + (n + 1 - i)))).toList) = L2 at hC34 hL2l hL2t
  refine WL.sem (Builtin.append_ #[28, 3] 28 #[.slice (some ⟨g, 0, none⟩) i c, .int .i64 (((n : Int) + 1) - (i : Int))]) 40 (.slice (some ⟨g26, 0, none⟩) (i + (n + 1 - i)) c27) (by kernel_rfl) hr29 ?_
  refine WLr 1 [(9, .slice (some ⟨g26, 0, none⟩) (i + (n + 1 - i)) c27)] (fun _ => by kernel_rfl) (WLd rfl (QXn (hK24 _ _ ?_)))
  refine WCs (fun K35 hK36 => ?_)
  refine WCg (WLr 2 [(42, .int .i64 (i : Int)), (41, .slice (some ⟨g26, 0, none⟩) (i + (n + 1 - i)) c27)] (fun _ => by kernel_rfl) ?_)
  have hb37 : i + (n + 1 - i) ≤ c27 := by omega
  refine WL.slc 28 41 1 (some ⟨g26, 0, none⟩) (some ⟨g26, i, none⟩) (i + (n + 1 - i)) c27 i (i + (n + 1 - i)) ((i + (n + 1 - i)) - i) (c27 - i) (some (.int .i64 (i : Int))) none 43 (by kernel_rfl) (by kernel_rfl) (bnd.yes (by omega)) bnd.no (by omega) hb37 (slcAt_blk (by omega) (by simp)) (by first | rfl | omega) (by first | rfl | omega) ?_
  refine WLr 1 [(44, .slice (some ⟨b, 0, none⟩) 1 1)] (fun _ => by kernel_rfl) ?_
  obtain ⟨w38, hr39, hF40, hC41⟩ := copy_run Tryd.prog hC34 1 28 28 3 41 1 g26 i ((i + (n + 1 - i)) - i) (c27 - i) 1 1 1 (some ⟨b, 0, none⟩) [.int .u32 x] rfl rfl (by show min _ _ = _; omega) rfl (srcOk.blk 1 (hC34.fr.has hb (by simpa using hne))) (by simp; omega) rfl
  refine WL.sem (Builtin.copy_ #[28, 28] 3 #[.slice (some ⟨g26, i, none⟩) ((i + (n + 1 - i)) - i) (c27 - i), .slice (some ⟨b, 0, none⟩) 1 1]) 45 (.int .i64 1) (by kernel_rfl) hr39 ?_
  refine WLd rfl (QXn (hK36 _ _ ?_))
  refine WCs (fun K42 hK43 => ?_)
  refine WC.drawC hC41 [g26] (by kernel_rfl) (fun w44 hF45 hC46 hS47 => ?_)
  refine WDp (NPt (NPt hN)) 0 46 (.slice (some ⟨g26, 0, none⟩) (i + (n + 1 - i)) c27) (by kernel_rfl) (fun _ => by kernel_rfl) hS47 ?_
  refine WDp (NPt (NPt hN)) 1 47 (.int .i64 (i : Int)) (by kernel_rfl) (fun _ => by kernel_rfl) hS47 ?_
  refine WDp (NPt (NPt hN)) 2 48 (.int .i64 1) (by kernel_rfl) (fun _ => by kernel_rfl) hS47 ?_
  refine WDp (NPt (NPt hN)) 3 49 (.int .i64 (IntKind.i64.wrap ((i : Int) + 1))) (by kernel_rfl) (fun _ => by kernel_rfl) hS47 ?_
  refine WD.recast (show (.int .i64 (IntKind.i64.wrap ((i : Int) + 1)) : Value) = .int .i64 ((i : Int) + 1) from by rw [wrap_in_i64 ((i : Int) + 1) (by omega) (by omega)]) ?_
  have hb48 : i + (n + 1 - i) ≤ c27 := by omega
  refine WD.slc (NPt (NPt hN)) 4 28 41 1 (some ⟨g26, 0, none⟩) (some ⟨g26, i + 1, none⟩) (i + (n + 1 - i)) c27 (i + 1) (i + (n + 1 - i)) ((i + (n + 1 - i)) - (i + 1)) (c27 - (i + 1)) (some (.int .i64 ((i : Int) + 1))) none 50 (by kernel_rfl) (by kernel_rfl) (by kernel_rfl) (bnd.yes (by omega)) bnd.no (by omega) hb48 (slcAt_blk (by omega) (by simp)) (by first | rfl | omega) (by first | rfl | omega) hS47 ?_
  refine WDp (NPt (NPt hN)) 5 51 (.slice (some ⟨g, 0, none⟩) n c) (by kernel_rfl) (fun _ => by kernel_rfl) hS47 ?_
  refine WDp (NPt (NPt hN)) 6 52 (.int .i64 (i : Int)) (by kernel_rfl) (fun _ => by kernel_rfl) hS47 ?_
  have hb49 : n ≤ c := by omega
  refine WD.slc (NPt (NPt hN)) 7 28 41 1 (some ⟨g, 0, none⟩) (some ⟨g, i, none⟩) n c i n (n - i) (c - i) (some (.int .i64 (i : Int))) none 53 (by kernel_rfl) (by kernel_rfl) (by kernel_rfl) (bnd.yes (by omega)) bnd.no (by omega) hb49 (slcAt_blk (by omega) (by simp)) (by first | rfl | omega) (by first | rfl | omega) hS47 ?_
  obtain ⟨w50, hr51, hF52, hC53⟩ := copy_run Tryd.prog hC46 1 28 28 3 41 1 g26 (i + 1) ((i + (n + 1 - i)) - (i + 1)) (c27 - (i + 1)) (n - i) (c - i) (n - i) (some ⟨g, i, none⟩) ((L.drop i).take ((n - i) * 1)) rfl rfl (by show min _ _ = _; omega) (by simp; omega) (srcOk.part (hC46.get 0 rfl)) (by simp; omega) (all_part h1 (by omega))
  have hS54 := hS47.trans hF52 (by simp)
  refine WD.sem 8 (Builtin.copy_ #[28, 28] 3 #[.slice (some ⟨g26, i + 1, none⟩) ((i + (n + 1 - i)) - (i + 1)) (c27 - (i + 1)), .slice (some ⟨g, i, none⟩) (n - i) (c - i)]) 54 (.int .i64 (((n - i) : Nat) : Int)) (by kernel_rfl) (by kernel_rfl) hr51 hS54 ?_
  refine WD.done (by kernel_rfl) ?_
  refine QXn (hK43 _ _ ?_)
  refine WCs (fun K55 hK56 => ?_)
  refine WCg (WLr 2 [(6, .slice (some ⟨g26, 0, none⟩) (i + (n + 1 - i)) c27), (55, .slice (some ⟨g26, 0, none⟩) (i + (n + 1 - i)) c27)] (fun _ => by kernel_rfl) (WLd rfl (QXn (hK56 _ _ ?_))))
  refine WC.ret ?_
  refine QXr ?_
  refine (hret _ _ _ rfl ?_).1
  clear hN hret hret' hK56 hK43 hK36 hK24 hK21 hK19 hK17 hK15 hK13 hK11 hK9 hK7 hK4 hK2
  refine ⟨_, rfl, hC53.fr, ?_, by intro y hy; simp [shut, blk, Value.ownBlock] at hy; omega⟩
  rw [show i + (n + 1 - i) = n + 1 from by omega]
  exact own_of_blk (Nat.zero_le _) (hC53.get 1 rfl) (by omega) hcm33 (by simp; omega) (by have q_ := (insAz 1 L2 [.int .u32 x] ((L.drop (i * 1)).take ((n - i) * 1)) i n rfl (by simp; omega) (by omega) hi).trans (by rw [hL2t]); simpa using q_)
 ·
  have t22 : ((n : Int) + 1) ≤ (c : Int) := by have q_ := of_decide_eq_false t22b; omega
  refine WCf rfl (WC.skip (QXn (hK19 _ _ ?_)))
  refine WCs (fun K57 hK58 => ?_)
  refine WCg (WLr 4 [(59, .int .i64 (IntKind.i64.wrap ((n : Int) + 1))), (58, .int .i64 1), (57, .int .i64 (n : Int)), (56, .slice (some ⟨g, 0, none⟩) n c)] (fun _ => by kernel_rfl) ?_)
  refine WLt (show (.int .i64 (IntKind.i64.wrap ((n : Int) + 1)) : Value) = .int .i64 ((n : Int) + 1) from by rw [wrap_in_i64 ((n : Int) + 1) (by omega) (by omega)]) ?_
  have hb59 : n + 1 ≤ c := by omega
  refine WL.slc 28 41 1 (some ⟨g, 0, none⟩) (some ⟨g, 0, none⟩) n c 0 (n + 1) (n + 1) c none (some (.int .i64 ((n : Int) + 1))) 60 (by kernel_rfl) (by kernel_rfl) bnd.no (bnd.yes (by omega)) (by omega) hb59 (slcAt_pre _ _ _) (by first | rfl | omega) (by first | rfl | omega) ?_
  refine WLr 1 [(0, .slice (some ⟨g, 0, none⟩) (n + 1) c)] (fun _ => by kernel_rfl) (WLd rfl (QXn (hK58 _ _ ?_)))
  refine WCs (fun K60 hK61 => ?_)
  refine WCs (fun K62 hK63 => ?_)
  refine WCg (WLr 5 [(65, .int .i64 (IntKind.i64.wrap ((i : Int) + 1))), (64, .int .i64 1), (63, .int .i64 (i : Int)), (62, .slice (some ⟨g, 0, none⟩) (n + 1) c), (61, .slice (some ⟨b, 0, none⟩) 1 1)] (fun _ => by kernel_rfl) ?_)
  refine WLt (show (.int .i64 (IntKind.i64.wrap ((i : Int) + 1)) : Value) = .int .i64 ((i : Int) + 1) from by rw [wrap_in_i64 ((i : Int) + 1) (by omega) (by omega)]) ?_
  have hb64 : n + 1 ≤ c := by omega
  refine WL.slc 28 41 1 (some ⟨g, 0, none⟩) (some ⟨g, i + 1, none⟩) (n + 1) c (i + 1) (n + 1) ((n + 1) - (i + 1)) (c - (i + 1)) (some (.int .i64 ((i : Int) + 1))) none 66 (by kernel_rfl) (by kernel_rfl) (bnd.yes (by omega)) bnd.no (by omega) hb64 (slcAt_blk (by omega) (by simp)) (by first | rfl | omega) (by first | rfl | omega) ?_
  refine WL.ext 96 #[.slice (some ⟨b, 0, none⟩) 1 1, .slice (some ⟨g, i + 1, none⟩) ((n + 1) - (i + 1)) (c - (i + 1))] 67 (.bool false) (by kernel_rfl) (run_overlaps (fn := Tryd.f96) (tS := 28) (tR := 4) (e := 41) (sz := 1) rfl (by kernel_rfl) (by kernel_rfl) (by kernel_rfl) (by kernel_rfl) (by kernel_rfl) (hC.fr.has hb (by simpa using hne)) (hC.get 0 rfl) hne (by rw [List.size_toArray]; omega)) ?_
  refine WLr 1 [(68, .bool true)] (fun _ => by kernel_rfl) (WLd rfl (QXn (hK63 _ _ ?_)))
  refine WCt rfl ?_
  refine WCs (fun K65 hK66 => ?_)
  refine WC.drawC hC [g] (by kernel_rfl) (fun w67 hF68 hC69 hS70 => ?_)
  refine WDp (NPt (NPt hN)) 0 69 (.slice (some ⟨g, 0, none⟩) (n + 1) c) (by kernel_rfl) (fun _ => by kernel_rfl) hS70 ?_
  refine WDp (NPt (NPt hN)) 1 70 (.int .i64 (i : Int)) (by kernel_rfl) (fun _ => by kernel_rfl) hS70 ?_
  refine WDp (NPt (NPt hN)) 2 71 (.int .i64 1) (by kernel_rfl) (fun _ => by kernel_rfl) hS70 ?_
  refine WDp (NPt (NPt hN)) 3 72 (.int .i64 (IntKind.i64.wrap ((i : Int) + 1))) (by kernel_rfl) (fun _ => by kernel_rfl) hS70 ?_
  refine WD.recast (show (.int .i64 (IntKind.i64.wrap ((i : Int) + 1)) : Value) = .int .i64 ((i : Int) + 1) from by rw [wrap_in_i64 ((i : Int) + 1) (by omega) (by omega)]) ?_
  have hb71 : n + 1 ≤ c := by omega
  refine WD.slc (NPt (NPt hN)) 4 28 41 1 (some ⟨g, 0, none⟩) (some ⟨g, i + 1, none⟩) (n + 1) c (i + 1) (n + 1) ((n + 1) - (i + 1)) (c - (i + 1)) (some (.int .i64 ((i : Int) + 1))) none 73 (by kernel_rfl) (by kernel_rfl) (by kernel_rfl) (bnd.yes (by omega)) bnd.no (by omega) hb71 (slcAt_blk (by omega) (by simp)) (by first | rfl | omega) (by first | rfl | omega) hS70 ?_
  refine WDp (NPt (NPt hN)) 5 74 (.slice (some ⟨g, 0, none⟩) (n + 1) c) (by kernel_rfl) (fun _ => by kernel_rfl) hS70 ?_
  refine WDp (NPt (NPt hN)) 6 75 (.int .i64 (i : Int)) (by kernel_rfl) (fun _ => by kernel_rfl) hS70 ?_
  have hb72 : n + 1 ≤ c := by omega
  refine WD.slc (NPt (NPt hN)) 7 28 41 1 (some ⟨g, 0, none⟩) (some ⟨g, i, none⟩) (n + 1) c i (n + 1) ((n + 1) - i) (c - i) (some (.int .i64 (i : Int))) none 76 (by kernel_rfl) (by kernel_rfl) (by kernel_rfl) (bnd.yes (by omega)) bnd.no (by omega) hb72 (slcAt_blk (by omega) (by simp)) (by first | rfl | omega) (by first | rfl | omega) hS70 ?_
  obtain ⟨w73, hr74, hF75, hC76⟩ := copy_run Tryd.prog hC69 0 28 28 3 41 1 g (i + 1) ((n + 1) - (i + 1)) (c - (i + 1)) ((n + 1) - i) (c - i) (n - i) (some ⟨g, i, none⟩) ((L.drop i).take ((n - i) * 1)) rfl rfl (by show min _ _ = _; omega) (by simp; omega) (srcOk.part (hC69.get 0 rfl)) (by simp; omega) (all_part h1 (by omega))
  have hS77 := hS70.trans hF75 (by simp)
  refine WD.sem 8 (Builtin.copy_ #[28, 28] 3 #[.slice (some ⟨g, i + 1, none⟩) ((n + 1) - (i + 1)) (c - (i + 1)), .slice (some ⟨g, i, none⟩) ((n + 1) - i) (c - i)]) 77 (.int .i64 (((n - i) : Nat) : Int)) (by kernel_rfl) (by kernel_rfl) hr74 hS77 ?_
  refine WD.done (by kernel_rfl) ?_
  refine QXn (hK66 _ _ ?_)
  refine WCs (fun K78 hK79 => ?_)
  refine WCg (WLr 2 [(79, .int .i64 (i : Int)), (78, .slice (some ⟨g, 0, none⟩) (n + 1) c)] (fun _ => by kernel_rfl) ?_)
  have hb80 : n + 1 ≤ c := by omega
  refine WL.slc 28 41 1 (some ⟨g, 0, none⟩) (some ⟨g, i, none⟩) (n + 1) c i (n + 1) ((n + 1) - i) (c - i) (some (.int .i64 (i : Int))) none 80 (by kernel_rfl) (by kernel_rfl) (bnd.yes (by omega)) bnd.no (by omega) hb80 (slcAt_blk (by omega) (by simp)) (by first | rfl | omega) (by first | rfl | omega) ?_
  refine WLr 1 [(81, .slice (some ⟨b, 0, none⟩) 1 1)] (fun _ => by kernel_rfl) ?_
  obtain ⟨w81, hr82, hF83, hC84⟩ := copy_run Tryd.prog hC76 0 28 28 3 41 1 g i ((n + 1) - i) (c - i) 1 1 1 (some ⟨b, 0, none⟩) [.int .u32 x] rfl rfl (by show min _ _ = _; omega) rfl (srcOk.blk 1 (hC76.fr.has hb (by simpa using hne))) (by simp; omega) rfl
  refine WL.sem (Builtin.copy_ #[28, 28] 3 #[.slice (some ⟨g, i, none⟩) ((n + 1) - i) (c - i), .slice (some ⟨b, 0, none⟩) 1 1]) 82 (.int .i64 1) (by kernel_rfl) hr82 ?_
  refine WLd rfl (QXn (hK79 _ _ ?_))
  refine WCs (fun K85 hK86 => ?_)
  refine WCg (WLr 2 [(6, .slice (some ⟨g, 0, none⟩) (n + 1) c), (83, .slice (some ⟨g, 0, none⟩) (n + 1) c)] (fun _ => by kernel_rfl) (WLd rfl (QXn (hK86 _ _ ?_))))
  refine WC.ret ?_
  refine QXr ?_
  refine (hret _ _ _ rfl ?_).1
  exact ⟨_, rfl, hC84.fr, own_of_blk (Nat.zero_le _) (hC84.get 0 rfl) (by omega) hcm (by simp; omega) (by have q_ := insBz 1 L [.int .u32 x] ((L.drop (i * 1)).take ((n - i) * 1)) i n rfl (by simp; omega) (by omega) hi; simpa using q_), by intro y hy; simp [shut, blk, Value.ownBlock] at hy; omega⟩

theorem InsEqA (A : Option Addr) (b n c : Nat) (xs : List Int) (x : Int) (w : World) (ho : w.ownsRow 0 41 1 (.slice A n c) n (xs.flatMap (Go.Tw.encI .u32))) (hb : w.heap[b]? = some (.cells #[.int .u32 x] 41 (0, 0))) (hne : b ∉ blk (.slice A n c)) (hlim : n < 2 ^ 40) : Calls Tryd.prog 83 #[.slice A n c, .int .i64 (n : Int), .slice (some ⟨b, 0, none⟩) 1 1] w fun e w' => ∃ v, e = .returned v ∧ Fr w w' (blk (.slice A n c)) ∧ w'.ownsRow 0 41 1 v (n + 1) ((xs ++ [x]).flatMap (Go.Tw.encI .u32)) ∧ (∀ y ∈ blk v, y ∈ blk (.slice A n c) ∨ w.heap.size ≤ y) := by
 refine enterD (n := 95) Tryd.func83 rfl rfl (Nat.le_of_ble_eq_true rfl) ?_
 intro Q0 hN hret hret'
 have hle : n ≤ c := by obtain ⟨A_, c_, h1_, h2_⟩ := own_form ho; simp at h1_; omega
 have hC := Cx.start1 w (own_lt ho)
 refine WCs (fun K1 hK2 => ?_)
 refine WCg (WLr 1 [(6, .slice none 0 0)] (fun _ => by kernel_rfl) (WLd rfl (QXn (hK2 _ _ ?_))))
 refine WCs (fun K3 hK4 => ?_)
 refine WCg (WLr 2 [(11, .int .i64 (n : Int)), (10, .slice A n c)] (fun _ => by kernel_rfl) ?_)
 obtain ⟨A5, hA6⟩ : ∃ A_, slcAt A n c 1 = A_ := ⟨_, rfl⟩
 have hle_ := own_le ho
 have hb7 : n ≤ c := by omega
 refine WL.slc 28 41 1 A A5 n c n n (n - n) (c - n) (some (.int .i64 (n : Int))) none 12 (by kernel_rfl) (by kernel_rfl) (bnd.yes (by omega)) bnd.no (by omega) hb7 hA6 (by first | rfl | omega) (by first | rfl | omega) ?_
 refine WLd rfl (QXn (hK4 _ _ ?_))
 refine WCs (fun K8 hK9 => ?_)
 refine WCg (WLr 3 [(7, .int .i64 1), (14, .int .i64 1), (13, .slice (some ⟨b, 0, none⟩) 1 1)] (fun _ => by kernel_rfl) (WLd rfl (QXn (hK9 _ _ ?_))))
 refine WCs (fun K10 hK11 => ?_)
 refine WCs (fun K12 hK13 => ?_)
 refine WCg (WLr 2 [(16, .bool false), (15, .int .i64 1)] (fun _ => by kernel_rfl) (WLd rfl (QXn (hK13 _ _ ?_))))
 refine WCf rfl (WC.skip (QXn (hK11 _ _ ?_)))
 refine WCs (fun K14 hK15 => ?_)
 refine WCg (WLr 3 [(8, .int .i64 (n : Int)), (19, .int .i64 (n : Int)), (18, .slice A n c)] (fun _ => by kernel_rfl) (WLd rfl (QXn (hK15 _ _ ?_))))
 refine WCs (fun K16 hK17 => ?_)
 refine WCs (fun K18 hK19 => ?_)
 refine WCg (WLr 3 [(22, .bool ((n : Int) == (n : Int))), (21, .int .i64 (n : Int)), (20, .int .i64 (n : Int))] (fun _ => by kernel_rfl) (WLd rfl (QXn (hK19 _ _ ?_))))
 refine WC.know 22 (.bool ((n : Int) == (n : Int))) (.bool true) rfl (congrArg Value.bool (by simp)) ?_
 refine WCt rfl ?_
 refine WCs (fun K20 hK21 => ?_)
 refine WCg (WLr 2 [(24, .slice (some ⟨b, 0, none⟩) 1 1), (23, .slice A n c)] (fun _ => by kernel_rfl) ?_)
 obtain ⟨v22, w23, hr24, ho25, hF26, hC27, hnil28, hsub29⟩ := app_run Tryd.prog hC 0 (v := .slice A n c) rfl 28 28 41 1 4 n 1 1 (some ⟨b, 0, none⟩) rfl ho [.int .u32 x] rfl (srcOk.blk 1 (hC.fr.has hb hne)) rfl (by simp only [maxLen]; omega) (by omega)
 have ho33 := own_snoc (enc := (Go.Tw.encI .u32)) (ys := xs) x ho25
 obtain ⟨A30, c31, rfl, hle32⟩ := own_form ho33
 refine WL.sem (Builtin.append_ #[28, 28] 28 #[.slice A n c, .slice (some ⟨b, 0, none⟩) 1 1]) 25 (.slice A30 (n + 1) c31) (by kernel_rfl) hr24 ?_
 refine WLr 1 [(6, .slice A30 (n + 1) c31)] (fun _ => by kernel_rfl) (WLd rfl (QXn (hK21 _ _ ?_)))
 refine WC.ret ?_
 refine QXr ?_
 refine (hret _ _ _ rfl ?_).1
 exact ⟨_, rfl, hC27.fr, by simpa [shut] using ho33, hsub29⟩

theorem InsA_ct (A : Option Addr) (b n c i : Nat) (xs : List Int) (x : Int) (w : World) (ho : w.ownsRow 0 41 1 (.slice A n c) n (xs.flatMap (Go.Tw.encI .u32))) (hb : w.heap[b]? = some (.cells #[.int .u32 x] 41 (0, 0))) (hne : b ∉ blk (.slice A n c)) (hi : i ≤ n) (hlim : n < 2 ^ 40) : Calls Tryd.prog 83 #[.slice A n c, .int .i64 (i : Int), .slice (some ⟨b, 0, none⟩) 1 1] w fun e w' => ∃ v, e = .returned v ∧ Fr w w' (blk (.slice A n c)) ∧ w'.ownsRow 0 41 1 v (n + 1) ((xs.take i ++ x :: xs.drop i).flatMap (Go.Tw.encI .u32)) ∧ (∀ y ∈ blk v, y ∈ blk (.slice A n c) ∨ w.heap.size ≤ y) := by
  have hcount := own_count (Go.Tw.encI_len _) (by decide) ho
  by_cases e : i = n
  · subst e
    refine (InsEqA A b i c xs x w ho hb hne hlim).mono fun e w' h => ?_
    rwa [← hcount, List.take_length, List.drop_length, hcount]
  · have hlt : i < n := by omega
    obtain ⟨g, cur, rfl, hg, hh, hnc, hcm, hsz, htk⟩ := own_blkd ho (by omega)
    have hbg : b ≠ g := by simpa [blk, Value.ownBlock] using hne
    have h1 : (cur.toList.take (n * 1)).all Value.oneCell' = true := by rw [htk]; exact flat_oneS (Go.Tw.encI_one _) _
    refine (InsLtA g b c n i cur.toList x w (by simpa using hh) hb hbg hlt hnc (by simpa using hsz) hcm h1 hlim).mono fun e w' h => ?_
    obtain ⟨v, he, hf, hown, hsub⟩ := h
    refine ⟨v, he, by simpa [blk, Value.ownBlock] using hf, ?_, by simpa [blk, Value.ownBlock] using hsub⟩
    have e1 : cur.toList.take (i * 1) = (xs.take i).flatMap (Go.Tw.encI .u32) := by rw [← flat_take (Go.Tw.encI_len _), ← htk, List.take_take, Nat.min_eq_left (by omega)]
    have e2 : (cur.toList.drop (i * 1)).take ((n - i) * 1) = (xs.drop i).flatMap (Go.Tw.encI .u32) := by rw [← flat_drop (Go.Tw.encI_len _), ← htk, List.drop_take]; congr 1; omega
    rw [e1, e2] at hown
    simpa [Go.Tw.encI] using hown
theorem DelA (A : Option Addr) (n c i : Nat) (xs : List Int) (w : World) (ho : w.ownsRow 0 41 1 (.slice A n c) n (xs.flatMap (Go.Tw.encI .u32))) (hi : i < n) (hlim : n < 2 ^ 40) : Calls Tryd.prog 82 #[.slice A n c, .int .i64 (i : Int), .int .i64 ((i : Int) + 1)] w fun e w' => e = .returned (.slice A (n - 1) c) ∧ Fr w w' (blk (.slice A n c)) ∧ w'.ownsRow 0 41 1 (.slice A (n - 1) c) (n - 1) ((xs.take i ++ xs.drop (i + 1)).flatMap (Go.Tw.encI .u32)) := by
 refine enterD (n := 33) Tryd.func82 rfl rfl (Nat.le_of_ble_eq_true rfl) ?_
 intro Q0 hN hret hret'
 have hC := Cx.start1 w (own_lt ho)
 have hle : n ≤ c := own_le ho
 have hcnt := own_count (Go.Tw.encI_len _) (by decide) ho
 refine WCs (fun K1 hK2 => ?_)
 refine WCg (WLr 1 [(6, .slice none 0 0)] (fun _ => by kernel_rfl) (WLd rfl (QXn (hK2 _ _ ?_))))
 refine WCs (fun K3 hK4 => ?_)
 refine WCg (WLr 5 [(12, .int .i64 (n : Int)), (11, .slice A n c), (10, .int .i64 ((i : Int) + 1)), (9, .int .i64 (i : Int)), (8, .slice A n c)] (fun _ => by kernel_rfl) ?_)
 have hr5 := fun w_ => run_slc3 (P := Tryd.prog) (w := w_) (t := 28) (e := 41) (sz := 1) (A := A) (nn := n) (c := c) (l := i) (h := i + 1) (m := n) (kl := .i64) (kh := .i64) (km := .i64) (il := (i : Int)) (ih := (i : Int) + 1) (im := (n : Int)) (by kernel_rfl) rfl (by omega) rfl (by omega) (by omega) (by omega)
 refine WL.sem (Instr.sliceAt 28 (.slice A n c) (some (.int .i64 (i : Int))) (some (.int .i64 ((i : Int) + 1))) (some (.int .i64 (n : Int)))) 13 (.slice (slcAt A i n 1) (i + 1 - i) (n - i)) (by kernel_rfl) (hr5 _) ?_
 refine WLd rfl (QXn (hK4 _ _ ?_))
 refine WCs (fun K6 hK7 => ?_)
 refine WCs (fun K8 hK9 => ?_)
 refine WCg (WLr 3 [(16, .bool ((i : Int) == ((i : Int) + 1))), (15, .int .i64 ((i : Int) + 1)), (14, .int .i64 (i : Int))] (fun _ => by kernel_rfl) (WLd rfl (QXn (hK9 _ _ ?_))))
 refine WC.know 16 (.bool ((i : Int) == ((i : Int) + 1))) (.bool false) rfl (congrArg Value.bool (by simp <;> omega)) ?_
 refine WCf rfl (WC.skip (QXn (hK7 _ _ ?_)))
 refine WCs (fun K10 hK11 => ?_)
 refine WCg (WLr 3 [(7, .int .i64 (n : Int)), (19, .int .i64 (n : Int)), (18, .slice A n c)] (fun _ => by kernel_rfl) (WLd rfl (QXn (hK11 _ _ ?_))))
 refine WCs (fun K12 hK13 => ?_)
 refine WC.drawC hC (blk (.slice A n c)) (by kernel_rfl) (fun w14 hF15 hC16 hS17 => ?_)
 have ho18 := own_fr ho hF15 (by simp)
 refine WDp (NPt hN) 0 20 (.slice A n c) (by kernel_rfl) (fun _ => by kernel_rfl) hS17 ?_
 refine WDp (NPt hN) 1 21 (.int .i64 (i : Int)) (by kernel_rfl) (fun _ => by kernel_rfl) hS17 ?_
 have hb19 : i ≤ c := by omega
 refine WD.slc (NPt hN) 2 28 41 1 A A n c 0 i i c none (some (.int .i64 (i : Int))) 22 (by kernel_rfl) (by kernel_rfl) (by kernel_rfl) bnd.no (bnd.yes (by omega)) (by omega) hb19 (slcAt_pre _ _ _) (by first | rfl | omega) (by first | rfl | omega) hS17 ?_
 refine WDp (NPt hN) 3 23 (.slice A n c) (by kernel_rfl) (fun _ => by kernel_rfl) hS17 ?_
 refine WDp (NPt hN) 4 24 (.int .i64 ((i : Int) + 1)) (by kernel_rfl) (fun _ => by kernel_rfl) hS17 ?_
 obtain ⟨A20, hA21⟩ : ∃ A_, slcAt A (i + 1) c 1 = A_ := ⟨_, rfl⟩
 have hb22 : n ≤ c := by omega
 refine WD.slc (NPt hN) 5 28 41 1 A A20 n c (i + 1) n (n - (i + 1)) (c - (i + 1)) (some (.int .i64 ((i : Int) + 1))) none 25 (by kernel_rfl) (by kernel_rfl) (by kernel_rfl) (bnd.yes (by omega)) bnd.no (by omega) hb22 hA21 (by first | rfl | omega) (by first | rfl | omega) hS17 ?_
 obtain ⟨Y23, w24, hr25, ho26, hY27, hF28, hC29⟩ := del_app (P := Tryd.prog) hC16 0 (t := 28) (ty := 28) (e := 41) (sz := 1) (bytes := 4) (i := i) (by kernel_rfl) rfl ho18 (flat_oneS (Go.Tw.encI_one _) _) hi hA21 (by simp only [maxLen]; omega) (by omega)
 have hS30 := hS17.trans hF28 (fun x_ hx_ => .inl hx_)
 refine WD.sem 6 (Builtin.append_ #[28, 28] 28 #[.slice A i c, .slice A20 (n - (i + 1)) (c - (i + 1))]) 26 (.slice A (n - 1 : Nat) c) (by kernel_rfl) (by kernel_rfl) hr25 hS30 ?_
 refine WDp (NPt hN) 7 0 (.slice A (n - 1 : Nat) c) (by kernel_rfl) (fun _ => by kernel_rfl) hS30 ?_
 refine WD.done (by kernel_rfl) ?_
 refine QXn (hK13 _ _ ?_)
 refine WCs (fun K31 hK32 => ?_)
 refine WCg (WLr 4 [(30, .int .i64 (n : Int)), (29, .int .i64 ((n - 1 : Nat) : Int)), (28, .slice A (n - 1 : Nat) c), (27, .slice A (n - 1 : Nat) c)] (fun _ => by kernel_rfl) ?_)
 obtain ⟨A33, hA34⟩ : ∃ A_, slcAt A (n - 1) c 1 = A_ := ⟨_, rfl⟩
 have hb35 : n ≤ c := by omega
 refine WL.slc 28 41 1 A A33 (n - 1 : Nat) c (n - 1) n (n - (n - 1)) (c - (n - 1)) (some (.int .i64 ((n - 1 : Nat) : Int))) (some (.int .i64 (n : Int))) 31 (by kernel_rfl) (by kernel_rfl) (bnd.yes (by omega)) (bnd.yes (by omega)) (by omega) hb35 hA34 (by first | rfl | omega) (by first | rfl | omega) ?_
 obtain ⟨w36, hr37, hF38, hC39, ho40⟩ := clear_run (P := Tryd.prog) hC29 0 (t := 28) (ty := 0) (e := 41) (sz := 1) (bytes := 4) (nn := n) (i := n - 1) (by kernel_rfl) (by kernel_rfl) rfl ho26 (by omega) hA34
 rw [hY27] at ho40
 refine WL.semN (Builtin.clear_ #[28] 0 #[.slice A33 (n - (n - 1)) (c - (n - 1))]) _ (by kernel_rfl) hr37 ?_
 refine WLd rfl (QXn (hK32 _ _ ?_))
 refine WCs (fun K41 hK42 => ?_)
 refine WCg (WLr 2 [(6, .slice A (n - 1 : Nat) c), (32, .slice A (n - 1 : Nat) c)] (fun _ => by kernel_rfl) (WLd rfl (QXn (hK42 _ _ ?_))))
 refine WC.ret ?_
 refine (hret _ _ _ rfl ?_).1
 clear hN hret hret' hK42 hK32 hK13 hK11 hK9 hK7 hK4 hK2
 rw [flat_take (Go.Tw.encI_len _), flat_drop (Go.Tw.encI_len _), ← List.flatMap_append] at ho40
 exact ⟨rfl, hC39.fr, ho40⟩

theorem putA_ct (A : Option Addr) (n c : Nat) (xs : List Int) (x : Int) (out : Bool) (w : World) (ho : w.ownsRow 0 41 1 (.slice A n c) n (xs.flatMap (Go.Tw.encI .u32))) (hs : sortK kA xs) (hlim : n < 2 ^ 39) : Calls Tryd.prog 64 #[.slice A n c, .int .u32 x, .func (.func 54) #[] #[], .bool out] w fun e w' => ∃ v, e = .returned (.tuple #[v, .bool (hasK kA (kA x) xs)]) ∧ Fr w w' (blk (.slice A n c)) ∧ w'.ownsRow 0 41 1 v (putK kA xs x out).length ((putK kA xs x out).flatMap (Go.Tw.encI .u32)) ∧ (∀ y ∈ blk v, y ∈ blk (.slice A n c) ∨ w.heap.size ≤ y) := by
 refine enterD (n := 44) Tryd.func64 rfl rfl (Nat.le_of_ble_eq_true rfl) ?_
 intro Q0 hN hret hret'
 have hC := Cx.start1 w (own_lt ho)
 have hle : n ≤ c := own_le ho
 have hcnt := own_count (Go.Tw.encI_len _) (by decide) ho
 have hrk := rank_le (κ := kA) (kA x) xs
 refine WCs (fun K1 hK2 => ?_)
 refine WCg (WLr 2 [(9, .bool false), (8, .slice none 0 0)] (fun _ => by kernel_rfl) (WLd rfl (QXn (hK2 _ _ ?_))))
 refine WCs (fun K3 hK4 => ?_)
 refine WCg (WLr 3 [(15, .func (.func 54) #[] #[]), (14, .int .u32 x), (13, .slice A n c)] (fun _ => by kernel_rfl) ?_)
 refine WLc rfl rfl rfl rfl rfl (by kernel_rfl) (BSFA_n A n c xs x w (own_rd ho (Go.Tw.encI_len _) (by decide)) (own_count (Go.Tw.encI_len _) (by decide) ho) (hs) (by omega)) ?_
 rintro _ w6 ⟨rfl, hF5⟩
 refine ⟨_, rfl, ?_⟩
 have hC7 := hC.call hF5
 have ho8 := own_fr ho hF5 (by simp)
 refine WLr 5 [(11, .bool (hasK kA (kA x) xs)), (10, .int .i64 (rankK kA (kA x) xs : Int)), (18, .bool (hasK kA (kA x) xs)), (17, .int .i64 (rankK kA (kA x) xs : Int)), (12, .tuple #[.int .i64 (rankK kA (kA x) xs : Int), .bool (hasK kA (kA x) xs)])] (fun _ => by kernel_rfl) (WLd rfl (QXn (hK4 _ _ ?_)))
 refine WCs (fun K9 hK10 => ?_)
 refine WC.block ?_
 refine WCs (fun K11 hK12 => ?_)
 refine WCg (WLr 2 [(21, .bool out), (20, .bool out)] (fun _ => by kernel_rfl) ?_)
 refine WLa 21 (out) rfl (fun t13b => ?_) (fun t13b => ?_)
 ·
  refine WLr 3 [(19, .bool (hasK kA (kA x) xs)), (23, .bool (hasK kA (kA x) xs)), (22, .bool (hasK kA (kA x) xs))] (fun _ => by kernel_rfl) (WLd rfl (QXn (hK12 _ _ ?_)))
  refine WCa 19 (hasK kA (kA x) xs) rfl (fun t14b => ?_) (fun t14b => ?_)
  ·
   refine WCt rfl ?_
   refine WCs (fun K15 hK16 => ?_)
   refine WCg (WLr 4 [(27, .int .i64 (IntKind.i64.wrap ((rankK kA (kA x) xs : Int) + 1))), (26, .int .i64 (rankK kA (kA x) xs : Int)), (25, .int .i64 (rankK kA (kA x) xs : Int)), (24, .slice A n c)] (fun _ => by kernel_rfl) ?_)
   refine WLt (show (.int .i64 (IntKind.i64.wrap ((rankK kA (kA x) xs : Int) + 1)) : Value) = .int .i64 ((rankK kA (kA x) xs : Int) + 1) from by rw [wrap_in_i64 ((rankK kA (kA x) xs : Int) + 1) (by first | omega | (have q_ := (has_lt (by assumption) hs).1; omega)) (by first | omega | (have q_ := (has_lt (by assumption) hs).1; omega))]) ?_
   refine WLc rfl rfl rfl rfl rfl (by kernel_rfl) (DelA A n c (rankK kA (kA x) xs) xs w6 ho8 (by have q_ := (has_lt t14b hs).1; omega) (by omega)) ?_
   rintro _ w20 ⟨rfl, hF18, ho17⟩
   have hC19 := hC7.callF 0 rfl hF18 (fun x_ hx_ => .inl (by rw [blk_n _ n c (n - 1) c]; exact hx_)) (own_lt ho17)
   refine ⟨_, rfl, ?_⟩
   refine WLr 2 [(9, .bool true), (8, .slice A (n - 1) c)] (fun _ => by kernel_rfl) (WLd rfl (QXn (hK16 _ _ ?_)))
   refine WC.ret ?_
   refine QXk ?_
   refine QXr ?_
   refine (hret _ _ _ rfl ?_).1
   clear hN hret hret' hK16 hK12 hK10 hK4 hK2
   have hp21 : putK kA xs x out = (xs.take (rankK kA (kA x) xs) ++ xs.drop ((rankK kA (kA x) xs) + 1)) := by unfold putK; rw [if_pos (show hasK kA (kA x) xs = true from t14b), if_pos t13b]; first | done | rfl
   have hn22 := own_count (Go.Tw.encI_len _) (by decide) ho17
   rw [hp21]
   exact ⟨_, by rw [t14b]; rfl, hC19.fr, by rw [hn22]; exact ho17, (fun y_ hy_ => .inl (by rw [blk_n _ n c (n - 1) c]; exact hy_))⟩
  ·
   refine WCf rfl ?_
   refine WCs (fun K23 hK24 => ?_)
   refine WCg (WLr 2 [(29, .bool out), (30, .bool out)] (fun _ => by kernel_rfl) (WLd rfl (QXn (hK24 _ _ ?_))))
   refine WC.know 29 (.bool out) (.bool true) rfl (congrArg Value.bool (by exact t13b)) ?_
   refine WCt rfl ?_
   refine WCs (fun K25 hK26 => ?_)
   refine WCg (WLr 3 [(9, .bool false), (8, .slice A n c), (31, .slice A n c)] (fun _ => by kernel_rfl) (WLd rfl (QXn (hK26 _ _ ?_))))
   refine WC.ret ?_
   refine QXk ?_
   refine QXr ?_
   refine (hret _ _ _ rfl ?_).1
   clear hN hret hret' hK26 hK24 hK12 hK10 hK4 hK2
   have hp27 : putK kA xs x out = xs := by unfold putK; rw [if_neg (by rw [show hasK kA (kA x) xs = false from t14b]; decide), if_pos t13b]; first | done | rfl
   have hn28 := own_count (Go.Tw.encI_len _) (by decide) ho8
   rw [hp27]
   exact ⟨_, by rw [t14b]; rfl, hC7.fr, by rw [hn28]; exact ho8, (fun y_ hy_ => .inl hy_)⟩
 ·
  refine WLr 3 [(19, .bool false), (23, .bool false), (22, undef)] (fun _ => by kernel_rfl) (WLd rfl (QXn (hK12 _ _ ?_)))
  refine WCf rfl ?_
  refine WCs (fun K29 hK30 => ?_)
  refine WCg (WLr 2 [(29, .bool out), (30, .bool out)] (fun _ => by kernel_rfl) (WLd rfl (QXn (hK30 _ _ ?_))))
  refine WC.know 29 (.bool out) (.bool false) rfl (congrArg Value.bool (by exact t13b)) ?_
  refine WCf rfl ?_
  refine WCs (fun K31 hK32 => ?_)
  refine WCg (WLr 2 [(32, .bool (hasK kA (kA x) xs)), (33, .bool (hasK kA (kA x) xs))] (fun _ => by kernel_rfl) (WLd rfl (QXn (hK32 _ _ ?_))))
  refine WCa 32 (hasK kA (kA x) xs) rfl (fun t33b => ?_) (fun t33b => ?_)
  ·
   refine WCt rfl ?_
   refine WCs (fun K34 hK35 => ?_)
   refine WCg (WLr 3 [(36, .int .u32 x), (35, .int .i64 (rankK kA (kA x) xs : Int)), (34, .slice A n c)] (fun _ => by kernel_rfl) ?_)
   have hn40 := own_count (Go.Tw.encI_len _) (by decide) ho8
   obtain ⟨e36, he37⟩ := get_some (xs := xs) (i := (rankK kA (kA x) xs)) (by first | omega | (have q_ := (has_lt (by assumption) hs).1; omega))
   obtain ⟨b38, hA39⟩ := own_addr (by decide) (Go.Tw.encI_len _) ho8 he37
   refine WLi A n c 37 .i64 (rankK kA (kA x) xs : Int) b38 0 (rankK kA (kA x) xs) 1 (by kernel_rfl) hA39 (by first | omega | (have q_ := (has_lt (by assumption) hs).1; omega)) (by first | omega | (have q_ := (has_lt (by assumption) hs).1; omega)) (rankK kA (kA x) xs) (by first | (simp; done) | omega) ?_
   obtain ⟨w41, hr42, hF43, ho45, hC44⟩ := stoE_run Tryd.prog (Go.Tw.encI_len _) hC7 0 hA39 rfl ho8 (rankK kA (kA x) xs) 0 (x := e36) he37 x [.int .u32 x] rfl 41 (.int .u32 x) ((rankK kA (kA x) xs)) rfl rfl rfl (by first | rfl | simp [Nat.add_assoc])
   refine WL.semU (Instr.storeAt 41 (.pointer (some ⟨b38, (rankK kA (kA x) xs), none⟩)) (.int .u32 x)) (by kernel_rfl) hr42 ?_
   refine WLd rfl (QXn (hK35 _ _ ?_))
   refine WCs (fun K46 hK47 => ?_)
   refine WCg (WLr 3 [(9, .bool true), (8, .slice A n c), (38, .slice A n c)] (fun _ => by kernel_rfl) (WLd rfl (QXn (hK47 _ _ ?_))))
   refine WC.ret ?_
   refine QXk ?_
   refine QXr ?_
   refine (hret _ _ _ rfl ?_).1
   clear hN hret hret' hK47 hK35 hK32 hK30 hK12 hK10 hK4 hK2
   have hp48 : putK kA xs x out = xs.set (rankK kA (kA x) xs) x := by unfold putK; rw [if_pos (show hasK kA (kA x) xs = true from t33b), if_neg (by rw [t13b]; decide)]; first | done | rfl
   have hn49 := own_count (Go.Tw.encI_len _) (by decide) ho45
   rw [hp48]
   exact ⟨_, by rw [t33b]; rfl, hC44.fr, by rw [hn49]; exact ho45, (fun y_ hy_ => .inl hy_)⟩
  ·
   refine WCf rfl (WC.skip ?_)
   refine QXb ?_
   refine QXn (hK10 _ _ ?_)
   refine WCs (fun K50 hK51 => ?_)
   refine WCg (WLr 3 [(41, .int .u32 x), (40, .int .i64 (rankK kA (kA x) xs : Int)), (39, .slice A n c)] (fun _ => by kernel_rfl) ?_)
   refine WL.newM hC7 (fun b => .slice (some ⟨b, 0, none⟩) 1 1) (.cells #[.int .u32 x] 41) 42 (fun _ => by kernel_rfl) (fun g52 w53 hb56 hF54 hC55 => ?_)
   have ho57 := own_fr ho8 hF54 (by simp)
   have hcnt_ := own_count (Go.Tw.encI_len _) (by decide) ho57
   refine WLc rfl rfl rfl rfl rfl (by kernel_rfl) (InsA_ct A g52 n c (rankK kA (kA x) xs) xs x w53 ho57 (hC55.get 0 rfl) (hC55.notin 0 0 rfl rfl) (by have q_ := rank_le (κ := kA) (kA x) xs; omega) (by omega)) ?_
   rintro _ w62 ⟨v_, rfl, hF60, ho58, hsub59⟩
   have hC61 := hC55.callF 0 rfl hF60 hsub59 (own_lt ho58)
   obtain ⟨A63, c64, rfl, hle65⟩ := own_form ho58
   refine ⟨_, rfl, ?_⟩
   refine WLr 2 [(9, .bool false), (8, .slice A63 (n + 1) c64)] (fun _ => by kernel_rfl) (WLd rfl (QXn (hK51 _ _ ?_)))
   refine WC.ret ?_
   refine (hret _ _ _ rfl ?_).1
   clear hN hret hret' hK51 hK32 hK30 hK12 hK10 hK4 hK2
   have hp66 : putK kA xs x out = (xs.take (rankK kA (kA x) xs) ++ x :: xs.drop (rankK kA (kA x) xs)) := by unfold putK; rw [if_neg (by rw [show hasK kA (kA x) xs = false from t33b]; decide), if_neg (by rw [t13b]; decide)]; first | done | rfl
   have hn67 := own_count (Go.Tw.encI_len _) (by decide) ho58
   rw [hp66]
   exact ⟨_, by rw [t33b]; rfl, hC61.fr, by rw [hn67]; exact ho58, (fun y_ hy_ => (hsub59 y_ hy_).imp id (fun h_ => Nat.le_trans hC55.fr.size h_))⟩

end Go.Proofs.YtfligklljkcbfaaDoor
