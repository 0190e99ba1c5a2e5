/- Contracts of functions of the program, each proved by a walk through its code; conditions stand in the statements. -/
import Derived.Test.YtoambminolcgfaaDoorLfM
namespace Go.Proofs.YtoambminolcgfaaDoor
set_option linter.unusedSimpArgs false
set_option linter.unusedVariables false
set_option linter.unusedSectionVars false
open Go Go.RowKit Go.Tw
set_option linter.unusedVariables false
theorem home_none {a : Int} (h : ∀ h' v' : Nat, h' < 8 → v' < 16 → 167837696 + 256 * (h' : Int) + (v' : Int) ≠ a) : isHome a = false := by
  cases hc : isHome a
  · rfl
  · simp only [isHome, decide_eq_true_eq] at hc
    exact absurd (by omega) (h ((a - 167837696) / 256).toNat ((a - 167837696) % 256).toNat (by omega) (by omega))
theorem home_some {a : Int} {h v : Nat} (hh : h < 8) (hv : v < 16) (e : 167837696 + 256 * (h : Int) + (v : Int) = a) : isHome a = true := by
  simp only [isHome, decide_eq_true_eq]; omega
theorem cmp_ltB (a b : Lease) : decide (leaseCmp a b < 0) = ltL a b := by
  cases h : ltL a b
  · exact decide_eq_false (fun q => by rw [cmp_lt.1 q] at h; cases h)
  · exact decide_eq_true (cmp_lt.2 h)
def insideB (port first : Int) : Bool := decide (first ≤ port ∧ port - first < 8)
theorem findP_inside (l : Lease) (vip port now : Int) : findP vip port now l = (decide (l.vip = vip) && decide (now ≤ l.exp) && insideB port l.first) := by
  simp only [findP, livesB, insideB, Bool.decide_and, Bool.and_assoc]
theorem inside_no {port first : Int} (h : first ≤ 4611686018427387904 → ∀ k : Nat, k < 8 → first + (k : Int) ≠ port) (h1 : first ≤ 4611686018427387904) : insideB port first = false := by
  cases hc : insideB port first
  · rfl
  · simp only [insideB, decide_eq_true_eq] at hc
    exact absurd (by omega) (h h1 (port - first).toNat (by omega))
theorem filter_snoc_no {p : Lease → Bool} {xs : List Lease} {k : Nat} {x : Lease} (h : (xs.take k).filter p = []) (hx : xs[k]? = some x) (hp : p x = false) : (xs.take (k + 1)).filter p = [] := by
  rw [take_filter_snoc p hx, h]; simp [hp]
theorem filter_hit {p : Lease → Bool} {xs : List Lease} {k : Nat} {x : Lease} (h : (xs.take k).filter p = []) (hx : xs[k]? = some x) (hp : p x = true) : headL (xs.filter p) = x ∧ hasL (xs.filter p) = true := by
  obtain ⟨hk, rfl⟩ := List.getElem?_eq_some_iff.1 hx
  have e : xs.filter p = (xs.take k).filter p ++ (xs.drop k).filter p := by rw [← List.filter_append, List.take_append_drop]
  rw [e, h, List.nil_append, List.drop_eq_getElem_cons hk, List.filter_cons_of_pos hp]
  exact ⟨rfl, rfl⟩
theorem filter_end {p : Lease → Bool} {xs : List Lease} {k : Nat} (h : (xs.take k).filter p = []) (hk : xs.length ≤ k) : headL (xs.filter p) = ⟨0, 0, 0, 0⟩ ∧ hasL (xs.filter p) = false := by
  rw [List.take_of_length_le hk] at h; rw [h]; exact ⟨rfl, rfl⟩
def wstep (l : Lease) (o : List Lease × Bool) (x : Lease) : List Lease × Bool :=
  let o1 := if !o.2 && !ltL x l then (o.1 ++ [l], true) else o
  if x.vip ≠ l.vip ∨ x.first ≠ l.first then (o1.1 ++ [x], o1.2) else o1
theorem fold_snoc {l : Lease} {xs : List Lease} {k : Nat} {x : Lease} {o : List Lease × Bool} (hx : xs[k]? = some x) : (xs.take (k + 1)).foldl (wstep l) o = wstep l ((xs.take k).foldl (wstep l) o) x := by
  obtain ⟨hk, rfl⟩ := List.getElem?_eq_some_iff.1 hx
  rw [List.take_succ_eq_append_getElem hk, List.foldl_append]; rfl
theorem key_no {a l : Lease} (h : ltL a l = true ∨ ltL l a = true) : a.vip ≠ l.vip ∨ a.first ≠ l.first := by
  rcases h with h | h <;> rw [ltL_iff] at h <;> omega
theorem fold_done {l : Lease} : ∀ {xs : List Lease}, sortedL xs → ∀ {o : List Lease}, (∀ x ∈ xs, ltL x l = false) → xs.foldl (wstep l) (o, true) = (o ++ xs.filter (ltL l ·), true)
  | [], _, o, _ => by simp
  | x :: r, hs, o, h => by
    have hx := h x (by simp)
    obtain ⟨h1, h2⟩ := List.pairwise_cons.1 hs
    rw [List.foldl_cons]
    by_cases e : x.vip = l.vip ∧ x.first = l.first
    · have hn : ltL l x = false := by cases hc : ltL l x; rfl; rw [ltL_iff] at hc; omega
      have e1 : wstep l (o, true) x = (o, true) := by simp [wstep, e.1, e.2]
      rw [e1, List.filter_cons_of_neg (by simp [hn])]
      exact fold_done h2 (fun y hy => h y (by simp [hy]))
    · have hn := ltL_tri hx e
      have e1 : wstep l (o, true) x = (o ++ [x], true) := by
        simp only [wstep, Bool.not_true, Bool.false_and, Bool.false_eq_true, if_false]
        rw [if_pos (key_no (.inr hn))]
      rw [e1, List.filter_cons_of_pos hn, fold_done h2 (fun y hy => h y (by simp [hy]))]
      simp
theorem with_fold {l : Lease} : ∀ {xs : List Lease}, sortedL xs → ∀ (o : List Lease), (fun q : List Lease × Bool => if q.2 then q.1 else q.1 ++ [l]) (xs.foldl (wstep l) (o, false)) = o ++ insL xs l
  | [], _, o => by simp [insL]
  | x :: r, hs, o => by
    obtain ⟨h1, h2⟩ := List.pairwise_cons.1 hs
    rw [List.foldl_cons]
    cases hx : ltL x l
    · have hall : ∀ y ∈ x :: r, ltL y l = false := fun y hy => by
        rcases List.mem_cons.1 hy with rfl | hy
        · exact hx
        · cases hc : ltL y l
          · rfl
          · rw [ltL_trans (h1 y hy) hc] at hx; cases hx
      have e1 : (x :: r).filter (ltL · l) = [] := List.filter_eq_nil_iff.2 (fun y hy => by simp [hall y hy])
      by_cases e : x.vip = l.vip ∧ x.first = l.first
      · have hn : ltL l x = false := by cases hc : ltL l x; rfl; rw [ltL_iff] at hc; omega
        have e2 : wstep l (o, false) x = (o ++ [l], true) := by simp [wstep, hx, e.1, e.2]
        rw [e2, fold_done h2 (fun y hy => hall y (by simp [hy]))]
        simp [insL, e1, hn]
      · have hn := ltL_tri hx e
        have e2 : wstep l (o, false) x = (o ++ [l] ++ [x], true) := by
          simp only [wstep, hx, Bool.not_false, Bool.and_self, if_true]
          rw [if_pos (key_no (.inr hn))]
        rw [e2, fold_done h2 (fun y hy => hall y (by simp [hy]))]
        simp [insL, e1, hn]
    · have e2 : wstep l (o, false) x = (o ++ [x], false) := by
        simp only [wstep, hx, Bool.not_true, Bool.and_false, Bool.false_eq_true, if_false]
        rw [if_pos (key_no (.inl hx))]
      rw [e2, with_fold h2 (o ++ [x])]
      simp [insL, hx, ltL_asym hx]
theorem with_end {l : Lease} {xs O : List Lease} {k : Nat} {d : Bool} (hs : sortedL xs) (h : (O, d) = (xs.take k).foldl (wstep l) ([], false)) (hk : xs.length ≤ k) : (if d then O else O ++ [l]) = insL xs l := by
  rw [List.take_of_length_le hk] at h
  have := with_fold (l := l) hs []
  rw [← h] at this
  simpa using this
theorem goodL_ask (vip dip : Int) : goodL ⟨vip, 1024, dip, 0⟩ = (isHome dip && isVip vip) := by
  simp [goodL, goodBlock]
theorem find_lent {xs : List Lease} (hg : ∀ x ∈ xs, goodL x = true) (vip now : Int) (n : Nat) : hasL (xs.filter (findP vip (1024 + 8 * (n : Int)) now)) = lentB xs vip now n := by
  have e : ∀ x ∈ xs, findP vip (1024 + 8 * (n : Int)) now x = lentAt vip now n x := fun x hx => by
    obtain ⟨h1, h2, h3, h4, h5⟩ := good_first (hg x hx)
    rw [Bool.eq_iff_iff]
    simp only [findP, lentAt, Bool.and_eq_true, decide_eq_true_eq]
    constructor
    · rintro ⟨⟨⟨a, b⟩, c⟩, d⟩; exact ⟨⟨a, b⟩, by omega⟩
    · rintro ⟨⟨a, b⟩, c⟩; exact ⟨⟨⟨a, b⟩, by omega⟩, by omega⟩
  rw [List.filter_congr e]
  cases hb : lentB xs vip now n
  · have h0 : xs.filter (lentAt vip now n) = [] := List.filter_eq_nil_iff.2 (fun x hx => by
      have := List.any_eq_false.1 hb x hx; simpa using this)
    rw [h0]; rfl
  · obtain ⟨x, hx, hp⟩ := List.any_eq_true.1 hb
    have hm : x ∈ xs.filter (lentAt vip now n) := List.mem_filter.2 ⟨hx, hp⟩
    cases hf : xs.filter (lentAt vip now n) with
    | nil => rw [hf] at hm; simp at hm
    | cons z r => rfl
theorem free_first {xs : List Lease} {vip now : Int} {n : Nat} (h : ∀ j, j < n → lentB xs vip now j = true) (hn : lentB xs vip now n = false) (hlt : n < 8064) : freeN xs vip now = some n := by
  unfold freeN
  rw [List.find?_range_eq_some]
  exact ⟨by simp [hn], List.mem_range.2 hlt, fun j hj => by simp [h j hj]⟩
theorem free_firstF {xs : List Lease} {vip now : Int} {n : Nat} (h : freeN xs vip now = some n) : freeF xs vip now = 1024 + 8 * (n : Int) := by
  unfold freeF; rw [h]
theorem lent_next {xs : List Lease} {vip now : Int} {n : Nat} (h : ∀ j, j < n → lentB xs vip now j = true) (hn : lentB xs vip now n = true) : ∀ j, j < n + 1 → lentB xs vip now j = true := fun j hj => by
  by_cases e : j = n
  · rw [e]; exact hn
  · exact h j (by omega)
theorem take_same {xs ys : List Lease} {k : Nat} {x y : Lease} (h : xs.take k = ys.take k) (hx : xs[k]? = some x) (hy : ys[k]? = some y) (e : x = y) : xs.take (k + 1) = ys.take (k + 1) := by
  obtain ⟨hk, rfl⟩ := List.getElem?_eq_some_iff.1 hx
  obtain ⟨hk', rfl⟩ := List.getElem?_eq_some_iff.1 hy
  rw [List.take_succ_eq_append_getElem hk, List.take_succ_eq_append_getElem hk', h, e]
theorem same_end {xs ys : List Lease} {k : Nat} (h : xs.take k = ys.take k) (hk : xs.length ≤ k) (hl : xs.length = ys.length) : xs = ys := by
  rwa [List.take_of_length_le hk, List.take_of_length_le (by omega)] at h
theorem lease_eq {x y : Lease} : x = y ↔ x.vip = y.vip ∧ x.first = y.first ∧ x.dip = y.dip ∧ x.exp = y.exp := by
  cases x; cases y; simp
theorem Rd_pre {w : World} {A : Option Addr} {xs ys : List Lease} (h : Rd w 4 encL A (xs ++ ys)) : Rd w 4 encL A xs :=
  ⟨fun i x hx => h.at_ i x (by rw [List.getElem?_append_left (List.getElem?_eq_some_iff.1 hx).1]; exact hx)⟩
theorem own_pre {w : World} {base e c : Nat} {A : Option Addr} {xs : List Lease} {m : Lease} (h : w.ownsRow base e 4 (.slice A (xs.length + 1) c) (xs.length + 1) ((xs ++ [m]).flatMap encL)) : w.ownsRow base e 4 (.slice A xs.length c) xs.length (xs.flatMap encL) := by
  have := own_takeE (m := xs.length) encL_len h (by omega)
  simpa using this
def markL : Lease := ⟨0, -77, 0, 0⟩
theorem Byte0_ct (a : Int) (w : World) (h0 : 0 ≤ a) (h1 : a ≤ 4294967295) : Calls Tryd.prog 55 #[.int .u32 a, .int .i64 0] w fun e w' => e = .returned (.int .i64 (a / 16777216)) ∧ Fr w w' [] := by
  refine enterD (n := 13) Tryd.func55 rfl rfl (Nat.le_of_ble_eq_true rfl) ?_
  intro Q0 hN hret hret'
  have hC := Cx.start w
  refine WC.seq (fun K1 hK2 => ?_)
  refine WC.region ?_
  refine WL.runs 1 [(4, .int .i64 0)] (fun _ => by kernel_rfl) ?_
  refine WL.done rfl ?_
  refine QX.then_normal (hK2 _ _ ?_)
  refine WC.seq (fun K3 hK4 => ?_)
  refine WC.region ?_
  refine WL.runs 3 [(7, .int .i64 (IntKind.i64.wrap (8 * 0))), (6, .int .i64 0), (5, .int .u32 a)] (fun _ => by kernel_rfl) ?_
  refine WL.recast (show (.int .i64 (IntKind.i64.wrap (8 * 0)) : Value) = .int .i64 0 from by rw [wrap_in_i64 _ (by omega) (by omega)]; rfl) ?_
  refine WL.runs 1 [(8, .int .i64 (IntKind.i64.wrap (24 - 0)))] (fun _ => by kernel_rfl) ?_
  refine WL.recast (show (.int .i64 (IntKind.i64.wrap (24 - 0)) : Value) = .int .i64 24 from by rw [wrap_in_i64 _ (by omega) (by omega)]; rfl) ?_
  refine WL.runs 1 [(9, .int .u64 (IntKind.u64.wrap (24)))] (fun _ => by kernel_rfl) ?_
  refine WL.recast (show (.int .u64 (IntKind.u64.wrap (24)) : Value) = .int .u64 24 from by rw [wrap_in_u64 _ (by omega) (by omega)]) ?_
  refine WL.runs 1 [(10, .int .u32 ((a : Int).fdiv (2 ^ 24)))] (fun _ => by kernel_rfl) ?_
  refine WL.recast (show (.int .u32 ((a : Int).fdiv (2 ^ 24)) : Value) = .int .u32 ((a : Int) / 16777216) from by rw [Int.fdiv_eq_ediv_of_nonneg (a : Int) (by decide)]; rfl) ?_
  refine WL.runs 1 [(11, .int .i64 (IntKind.i64.wrap ((a : Int) / 16777216)))] (fun _ => by kernel_rfl) ?_
  refine WL.recast (show (.int .i64 (IntKind.i64.wrap ((a : Int) / 16777216)) : Value) = .int .i64 ((a : Int) / 16777216) from by rw [wrap_in_i64 ((a : Int) / 16777216) (by omega) (by omega)]) ?_
  refine WL.runs 1 [(12, .int .i64 (Int.tmod ((a : Int) / 16777216) 256))] (fun _ => by kernel_rfl) ?_
  refine WL.recast (show (.int .i64 (Int.tmod ((a : Int) / 16777216) 256) : Value) = .int .i64 (a / 16777216) from by rw [Int.tmod_eq_emod_of_nonneg (by omega)]; congr 1; omega) ?_
  refine WL.runs 1 [(4, .int .i64 (a / 16777216))] (fun _ => by kernel_rfl) ?_
  refine WL.done rfl ?_
  refine QX.then_normal (hK4 _ _ ?_)
  refine WC.ret ?_
  refine (hret _ _ _ rfl ?_).1
  clear hN hret hret' hK4 hK2
  exact ⟨rfl, hC.fr⟩

theorem IsVip2_ct (a : Int) (w : World) (h0 : 0 ≤ a) (h1 : a ≤ 4294967295) : Calls Tryd.prog 39 #[.int .u32 a] w fun e w' => e = .returned (.bool (isVip a)) ∧ Fr w w' [] := by
  refine enterD (n := 20) Tryd.func39 rfl rfl (Nat.le_of_ble_eq_true rfl) ?_
  intro Q0 hN hret hret'
  have hC := Cx.start w
  refine WC.seq (fun K1 hK2 => ?_)
  refine WC.region ?_
  refine WL.runs 1 [(2, .bool false)] (fun _ => by kernel_rfl) ?_
  refine WL.done rfl ?_
  refine QX.then_normal (hK2 _ _ ?_)
  refine WC.seq (fun K3 hK4 => ?_)
  refine WC.region ?_
  refine WL.runs 1 [(4, .int .u32 a)] (fun _ => by kernel_rfl) ?_
  refine WL.call rfl rfl rfl rfl rfl (by kernel_rfl) (Byte0_ct a w (by omega) (by omega)) ?_
  rintro _ w6 ⟨rfl, hF5⟩
  refine ⟨_, rfl, ?_⟩
  have hC7 := hC.call hF5
  refine WL.runs 1 [(3, .int .i64 (a / 16777216))] (fun _ => by kernel_rfl) ?_
  refine WL.done rfl ?_
  refine QX.then_normal (hK4 _ _ ?_)
  refine WC.seq (fun K8 hK9 => ?_)
  refine WC.region ?_
  refine WL.runs 3 [(8, .bool (decide ((a / 16777216) ≥ 1))), (7, .bool (decide ((a / 16777216) ≥ 1))), (6, .int .i64 (a / 16777216))] (fun _ => by kernel_rfl) ?_
  refine WL.test_at 8 (decide ((a / 16777216) ≥ 1)) rfl (fun t10b => ?_) (fun t10b => ?_)
  · -- (a / 16777216) ≥ 1: true
    have t10 : (1 : Int) ≤ (a / 16777216) := by have q_ := of_decide_eq_true t10b; omega
    refine WL.runs 4 [(12, .bool (decide ((a / 16777216) ≤ 223))), (11, .bool (decide ((a / 16777216) ≤ 223))), (10, .bool (decide ((a / 16777216) ≤ 223))), (9, .int .i64 (a / 16777216))] (fun _ => by kernel_rfl) ?_
    refine WL.test_at 12 (decide ((a / 16777216) ≤ 223)) rfl (fun t11b => ?_) (fun t11b => ?_)
    · -- (a / 16777216) ≤ 223: true
      have t11 : (a / 16777216) ≤ 223 := by have q_ := of_decide_eq_true t11b; omega
      refine WL.runs 4 [(16, .bool ((a / 16777216) != 10)), (15, .bool ((a / 16777216) != 10)), (14, .bool ((a / 16777216) != 10)), (13, .int .i64 (a / 16777216))] (fun _ => by kernel_rfl) ?_
      refine WL.test_at 16 ((a / 16777216) != 10) rfl (fun t12b => ?_) (fun t12b => ?_)
      · -- (a / 16777216) ≠ 10: true
        have t12 : (a / 16777216) ≠ 10 := by simpa using t12b
        refine WL.runs 4 [(2, .bool ((a / 16777216) != 127)), (19, .bool ((a / 16777216) != 127)), (18, .bool ((a / 16777216) != 127)), (17, .int .i64 (a / 16777216))] (fun _ => by kernel_rfl) ?_
        refine WL.done rfl ?_
        refine QX.then_normal (hK9 _ _ ?_)
        refine WC.ret ?_
        refine (hret _ _ _ rfl ?_).1
        clear hN hret hret' hK9 hK4 hK2
        exact ⟨by simp [shut, isVip]; grind, hC7.fr⟩
      · -- (a / 16777216) ≠ 10: false
        have t12 : (a / 16777216) = 10 := by simpa using t12b
        refine WL.runs 4 [(2, .bool false), (19, .bool false), (18, undef), (17, undef)] (fun _ => by kernel_rfl) ?_
        refine WL.done rfl ?_
        refine QX.then_normal (hK9 _ _ ?_)
        refine WC.ret ?_
        refine (hret _ _ _ rfl ?_).1
        clear hN hret hret' hK9 hK4 hK2
        exact ⟨by simp [shut, isVip]; grind, hC7.fr⟩
    · -- (a / 16777216) ≤ 223: false
      have t11 : (223 : Int) < (a / 16777216) := by have q_ := of_decide_eq_false t11b; omega
      refine WL.runs 8 [(2, .bool false), (19, .bool false), (18, undef), (17, undef), (16, .bool false), (15, .bool false), (14, undef), (13, undef)] (fun _ => by kernel_rfl) ?_
      refine WL.done rfl ?_
      refine QX.then_normal (hK9 _ _ ?_)
      refine WC.ret ?_
      refine (hret _ _ _ rfl ?_).1
      clear hN hret hret' hK9 hK4 hK2
      exact ⟨by simp [shut, isVip]; grind, hC7.fr⟩
  · -- (a / 16777216) ≥ 1: false
    have t10 : (a / 16777216) < 1 := by have q_ := of_decide_eq_false t10b; omega
    refine WL.runs 12 [(2, .bool false), (19, .bool false), (18, undef), (17, undef), (16, .bool false), (15, .bool false), (14, undef), (13, undef), (12, .bool false), (11, .bool false), (10, undef), (9, undef)] (fun _ => by kernel_rfl) ?_
    refine WL.done rfl ?_
    refine QX.then_normal (hK9 _ _ ?_)
    refine WC.ret ?_
    refine (hret _ _ _ rfl ?_).1
    clear hN hret hret' hK9 hK4 hK2
    exact ⟨by simp [shut, isVip]; grind, hC7.fr⟩

theorem Dip2_ct (h v : Int) (w : World) (h0 : 0 ≤ h ∧ h < 8) (v0 : 0 ≤ v ∧ v < 16) : Calls Tryd.prog 54 #[.int .i64 h, .int .i64 v] w fun e w' => e = .returned (.int .u32 (167837696 + 256 * h + v)) ∧ Fr w w' [] := by
  refine enterD (n := 11) Tryd.func54 rfl rfl (Nat.le_of_ble_eq_true rfl) ?_
  intro Q0 hN hret hret'
  have hC := Cx.start w
  refine WC.seq (fun K1 hK2 => ?_)
  refine WC.region ?_
  refine WL.runs 1 [(4, .int .u32 0)] (fun _ => by kernel_rfl) ?_
  refine WL.done rfl ?_
  refine QX.then_normal (hK2 _ _ ?_)
  refine WC.seq (fun K3 hK4 => ?_)
  refine WC.region ?_
  refine WL.runs 2 [(6, .int .i64 (IntKind.i64.wrap (256 * h))), (5, .int .i64 h)] (fun _ => by kernel_rfl) ?_
  refine WL.recast (show (.int .i64 (IntKind.i64.wrap (256 * h)) : Value) = .int .i64 (256 * h) from by rw [wrap_in_i64 (256 * h) (by omega) (by omega)]) ?_
  refine WL.runs 1 [(7, .int .i64 (IntKind.i64.wrap (167837696 + (256 * h))))] (fun _ => by kernel_rfl) ?_
  refine WL.recast (show (.int .i64 (IntKind.i64.wrap (167837696 + (256 * h))) : Value) = .int .i64 (167837696 + (256 * h)) from by rw [wrap_in_i64 (167837696 + (256 * h)) (by omega) (by omega)]) ?_
  refine WL.runs 2 [(9, .int .i64 (IntKind.i64.wrap ((167837696 + (256 * h)) + v))), (8, .int .i64 v)] (fun _ => by kernel_rfl) ?_
  refine WL.recast (show (.int .i64 (IntKind.i64.wrap ((167837696 + (256 * h)) + v)) : Value) = .int .i64 ((167837696 + (256 * h)) + v) from by rw [wrap_in_i64 ((167837696 + (256 * h)) + v) (by omega) (by omega)]) ?_
  refine WL.runs 1 [(10, .int .u32 (IntKind.u32.wrap ((167837696 + (256 * h)) + v)))] (fun _ => by kernel_rfl) ?_
  refine WL.recast (show (.int .u32 (IntKind.u32.wrap ((167837696 + (256 * h)) + v)) : Value) = .int .u32 ((167837696 + (256 * h)) + v) from by rw [wrap_in_u32 ((167837696 + (256 * h)) + v) (by omega) (by omega)]) ?_
  refine WL.runs 1 [(4, .int .u32 ((167837696 + (256 * h)) + v))] (fun _ => by kernel_rfl) ?_
  refine WL.done rfl ?_
  refine QX.then_normal (hK4 _ _ ?_)
  refine WC.ret ?_
  refine (hret _ _ _ rfl ?_).1
  clear hN hret hret' hK4 hK2
  exact ⟨rfl, hC.fr⟩

theorem Home2_ct (a : Int) (w : World) (h0 : 0 ≤ a) (h1 : a ≤ 4294967295) : Calls Tryd.prog 38 #[.int .u32 a] w fun e w' => ∃ h v : Int, e = .returned (.tuple #[.int .i64 h, .int .i64 v, .bool (isHome a)]) ∧ Fr w w' [] := by
  refine enterD (n := 22) Tryd.func38 rfl rfl (Nat.le_of_ble_eq_true rfl) ?_
  intro Q0 hN hret hret'
  have hC := Cx.start w
  refine WC.seq (fun K1 hK2 => ?_)
  refine WC.region ?_
  refine WL.runs 3 [(4, .bool false), (3, .int .i64 0), (2, .int .i64 0)] (fun _ => by kernel_rfl) ?_
  refine WL.done rfl ?_
  refine QX.then_normal (hK2 _ _ ?_)
  refine WC.seq (fun K3 hK4 => ?_)
  refine WC.seq (fun K5 hK6 => ?_)
  refine WC.region ?_
  refine WL.runs 1 [(5, .int .i64 0)] (fun _ => by kernel_rfl) ?_
  refine WL.done rfl ?_
  refine QX.then_normal (hK6 _ _ ?_)
  refine WC.block ?_
  refine WC.loop (fun m_ E_ w_ => ∃ (h : Nat), m_ = 8 - h ∧ E_ = [(0, .int .u32 a), (5, .int .i64 (h : Int))] ∧ Cx w [] w_ [] [] ∧ (h ≤ 8 ∧ ∀ h' v' : Nat, h' < h → v' < 16 → 167837696 + 256 * (h' : Int) + (v' : Int) ≠ a)) ⟨_, _, ⟨0, rfl, rfl, hC, Nat.zero_le _, fun h' v' q => absurd q (Nat.not_lt_zero _)⟩, sub_of ⟨rfl, rfl, trivial⟩⟩ (fun m10 E_ w11 K7 hK8 hI9 => ?_)
  obtain ⟨h, rfl, rfl, hC12, hh, hno⟩ := hI9
  refine WC.seq (fun K13 hK14 => ?_)
  refine WC.seq (fun K15 hK16 => ?_)
  refine WC.region ?_
  refine WL.runs 2 [(8, .bool (decide ((h : Int) < 8))), (7, .int .i64 (h : Int))] (fun _ => by kernel_rfl) ?_
  refine WL.done rfl ?_
  refine QX.then_normal (hK16 _ _ ?_)
  refine WC.test_at 8 (decide ((h : Int) < 8)) rfl (fun t17b => ?_) (fun t17b => ?_)
  · -- (h : Int) < 8: true
    have t17 : (h : Int) < 8 := by have q_ := of_decide_eq_true t17b; omega
    refine WC.cond_true rfl ?_
    refine WC.skip ?_
    refine QX.then_normal (hK14 _ _ ?_)
    refine WC.seq (fun K18 hK19 => ?_)
    refine WC.block ?_
    refine WC.seq (fun K20 hK21 => ?_)
    refine WC.region ?_
    refine WL.runs 1 [(6, .int .i64 0)] (fun _ => by kernel_rfl) ?_
    refine WL.done rfl ?_
    refine QX.then_normal (hK21 _ _ ?_)
    refine WC.block ?_
    refine WC.loop (fun m_ E_ w_ => ∃ (v : Nat), m_ = 16 - v ∧ E_ = [(0, .int .u32 a), (5, .int .i64 (h : Int)), (6, .int .i64 (v : Int)), (7, .int .i64 (h : Int)), (8, .bool true)] ∧ Cx w [] w_ [] [] ∧ (v ≤ 16 ∧ ∀ v' : Nat, v' < v → 167837696 + 256 * (h : Int) + (v' : Int) ≠ a)) ⟨_, _, ⟨0, rfl, rfl, hC12, Nat.zero_le _, fun v' q => absurd q (Nat.not_lt_zero _)⟩, sub_of ⟨rfl, rfl, rfl, rfl, rfl, trivial⟩⟩ (fun m25 E_ w26 K22 hK23 hI24 => ?_)
    obtain ⟨v, rfl, rfl, hC27, hv, hno2⟩ := hI24
    refine WC.seq (fun K28 hK29 => ?_)
    refine WC.seq (fun K30 hK31 => ?_)
    refine WC.region ?_
    refine WL.runs 2 [(12, .bool (decide ((v : Int) < 16))), (11, .int .i64 (v : Int))] (fun _ => by kernel_rfl) ?_
    refine WL.done rfl ?_
    refine QX.then_normal (hK31 _ _ ?_)
    refine WC.test_at 12 (decide ((v : Int) < 16)) rfl (fun t32b => ?_) (fun t32b => ?_)
    · -- (v : Int) < 16: true
      have t32 : (v : Int) < 16 := by have q_ := of_decide_eq_true t32b; omega
      refine WC.cond_true rfl ?_
      refine WC.skip ?_
      refine QX.then_normal (hK29 _ _ ?_)
      refine WC.seq (fun K33 hK34 => ?_)
      refine WC.block ?_
      refine WC.seq (fun K35 hK36 => ?_)
      refine WC.region ?_
      refine WL.runs 2 [(16, .int .i64 (v : Int)), (15, .int .i64 (h : Int))] (fun _ => by kernel_rfl) ?_
      refine WL.call rfl rfl rfl rfl rfl (by kernel_rfl) (Dip2_ct (h : Int) (v : Int) w26 (by omega) (by omega)) ?_
      rintro _ w38 ⟨rfl, hF37⟩
      refine ⟨_, rfl, ?_⟩
      have hC39 := hC27.call hF37
      refine WL.runs 2 [(19, .bool ((167837696 + 256 * (h : Int) + (v : Int)) == a)), (18, .int .u32 a)] (fun _ => by kernel_rfl) ?_
      refine WL.done rfl ?_
      refine QX.then_normal (hK36 _ _ ?_)
      refine WC.test_at 19 ((167837696 + 256 * (h : Int) + (v : Int)) == a) rfl (fun t40b => ?_) (fun t40b => ?_)
      · -- (167837696 + 256 * (h : Int) + (v : Int)) = a: true
        have t40 : (167837696 + 256 * (h : Int) + (v : Int)) = a := by simpa using t40b
        refine WC.cond_true rfl ?_
        refine WC.seq (fun K41 hK42 => ?_)
        refine WC.region ?_
        refine WL.runs 5 [(4, .bool true), (3, .int .i64 (v : Int)), (2, .int .i64 (h : Int)), (21, .int .i64 (v : Int)), (20, .int .i64 (h : Int))] (fun _ => by kernel_rfl) ?_
        refine WL.done rfl ?_
        refine QX.then_normal (hK42 _ _ ?_)
        refine WC.ret ?_
        refine QX.block_ret ?_
        refine QX.then_ret ?_
        refine QX.then_ret ?_
        refine QX.block_ret ?_
        refine QX.block_ret ?_
        refine QX.then_ret ?_
        refine QX.then_ret ?_
        refine QX.block_ret ?_
        refine QX.then_ret ?_
        refine (hret _ _ _ rfl ?_).1
        clear hN hret hret' hK42 hK36 hK34 hK31 hK29 hK21 hK19 hK16 hK14 hK6 hK4 hK2
        exact ⟨_, _, by rw [home_some (h := h) (v := v) (by omega) (by omega) (by assumption)]; rfl, hC39.fr⟩
      · -- (167837696 + 256 * (h : Int) + (v : Int)) = a: false
        have t40 : ¬ ((167837696 + 256 * (h : Int) + (v : Int)) = a) := by simpa using t40b
        refine WC.cond_false rfl ?_
        refine WC.skip ?_
        refine QX.block_normal ?_
        refine QX.then_normal (hK34 _ _ ?_)
        refine WC.region ?_
        refine WL.runs 2 [(14, .int .i64 (IntKind.i64.wrap ((v : Int) + 1))), (13, .int .i64 (v : Int))] (fun _ => by kernel_rfl) ?_
        refine WL.recast (show (.int .i64 (IntKind.i64.wrap ((v : Int) + 1)) : Value) = .int .i64 ((v : Int) + 1) from by rw [wrap_in_i64 ((v : Int) + 1) (by omega) (by omega)]) ?_
        refine WL.runs 1 [(6, .int .i64 ((v : Int) + 1))] (fun _ => by kernel_rfl) ?_
        refine WL.done rfl ?_
        refine QX.then_normal ?_
        have hC43 := hC39.pick [] [] rfl rfl
        refine fun a_ ha_ => hK23 _ _ _ ?_ ⟨v + 1, rfl, rfl, hC43, by omega, fun v' q1 => by
          by_cases e_ : v' = v
          · subst e_; assumption
          · exact hno2 v' (by omega)⟩ a_ (ha_.weaken (sub_of ⟨rfl, rfl, rfl, rfl, rfl, trivial⟩))
        omega
    · -- (v : Int) < 16: false
      have t32 : (16 : Int) ≤ (v : Int) := by have q_ := of_decide_eq_false t32b; omega
      refine WC.cond_false rfl ?_
      refine WC.exit ?_
      refine QX.then_exit ?_
      refine QX.then_exit ?_
      refine QX.block_hit ?_
      refine QX.block_normal ?_
      refine QX.then_normal (hK19 _ _ ?_)
      refine WC.region ?_
      refine WL.runs 2 [(10, .int .i64 (IntKind.i64.wrap ((h : Int) + 1))), (9, .int .i64 (h : Int))] (fun _ => by kernel_rfl) ?_
      refine WL.recast (show (.int .i64 (IntKind.i64.wrap ((h : Int) + 1)) : Value) = .int .i64 ((h : Int) + 1) from by rw [wrap_in_i64 ((h : Int) + 1) (by omega) (by omega)]) ?_
      refine WL.runs 1 [(5, .int .i64 ((h : Int) + 1))] (fun _ => by kernel_rfl) ?_
      refine WL.done rfl ?_
      refine QX.then_normal ?_
      have hC44 := hC27.pick [] [] rfl rfl
      refine fun a_ ha_ => hK8 _ _ _ ?_ ⟨h + 1, rfl, rfl, hC44, by omega, fun h' v' q1 q2 => by
        by_cases e_ : h' = h
        · subst e_; exact hno2 v' (by omega)
        · exact hno h' v' (by omega) q2⟩ a_ (ha_.weaken (sub_of ⟨rfl, rfl, trivial⟩))
      omega
  · -- (h : Int) < 8: false
    have t17 : (8 : Int) ≤ (h : Int) := by have q_ := of_decide_eq_false t17b; omega
    refine WC.cond_false rfl ?_
    refine WC.exit ?_
    refine QX.then_exit ?_
    refine QX.then_exit ?_
    refine QX.block_hit ?_
    refine QX.then_normal (hK4 _ _ ?_)
    refine WC.seq (fun K45 hK46 => ?_)
    refine WC.region ?_
    refine WL.runs 3 [(4, .bool false), (3, .int .i64 0), (2, .int .i64 0)] (fun _ => by kernel_rfl) ?_
    refine WL.done rfl ?_
    refine QX.then_normal (hK46 _ _ ?_)
    refine WC.ret ?_
    refine (hret _ _ _ rfl ?_).1
    clear hN hret hret' hK46 hK16 hK14 hK6 hK4 hK2
    exact ⟨_, _, by rw [home_none (fun h' v' q1 q2 => hno h' v' (by omega) q2)]; rfl, hC12.fr⟩

theorem good2_ct (l : Lease) (w : World) (hl : okL l) : Calls Tryd.prog 42 #[.agg #[.int .u32 l.vip, .int .i64 l.first, .int .u32 l.dip, .int .i64 l.exp]] w fun e w' => e = .returned (.bool (goodL l)) ∧ Fr w w' [] := by
  refine enterD (n := 45) Tryd.func42 rfl rfl (Nat.le_of_ble_eq_true rfl) ?_
  intro Q0 hN hret hret'
  obtain ⟨q1, q2, q3, q4, q5, q6, q7, q8⟩ := hl
  have hC := Cx.start w
  refine WC.seq (fun K1 hK2 => ?_)
  refine WC.region ?_
  refine WL.newM hC (fun b => .pointer (some ⟨b, 0, none⟩)) (.cells #[.int .u32 l.vip, .int .i64 l.first, .int .u32 l.dip, .int .i64 l.exp] 27) 1 (fun _ => by kernel_rfl) (fun g3 w4 hb7 hF5 hC6 => ?_)
  refine WL.runs 1 [(2, .bool false)] (fun _ => by kernel_rfl) ?_
  refine WL.done rfl ?_
  refine QX.then_normal (hK2 _ _ ?_)
  refine WC.seq (fun K8 hK9 => ?_)
  refine WC.region ?_
  refine WL.runs 1 [(7, .pointer (some ⟨g3, 2, none⟩))] (fun _ => by kernel_rfl) ?_
  refine WL.load 23 (.pointer (some ⟨g3, 2, none⟩)) (.int .u32 l.dip) 8 (by kernel_rfl) (run_ld (hC6.get 0 rfl) rfl) ?_
  refine WL.call rfl rfl rfl rfl rfl (by kernel_rfl) (Home2_ct l.dip w4 (by omega) (by omega)) ?_
  rintro _ w13 ⟨h10, v11, rfl, hF12⟩
  refine ⟨_, rfl, ?_⟩
  have hC14 := hC6.call hF12
  refine WL.runs 7 [(5, .bool (isHome l.dip)), (4, .int .i64 v11), (3, .int .i64 h10), (12, .bool (isHome l.dip)), (11, .int .i64 v11), (10, .int .i64 h10), (6, .tuple #[.int .i64 h10, .int .i64 v11, .bool (isHome l.dip)])] (fun _ => by kernel_rfl) ?_
  refine WL.done rfl ?_
  refine QX.then_normal (hK9 _ _ ?_)
  refine WC.seq (fun K15 hK16 => ?_)
  refine WC.region ?_
  refine WL.runs 2 [(14, .bool (isHome l.dip)), (13, .bool (isHome l.dip))] (fun _ => by kernel_rfl) ?_
  refine WL.test_at 14 (isHome l.dip) rfl (fun t17b => ?_) (fun t17b => ?_)
  · -- (isHome l.dip) = true: true
    refine WL.runs 1 [(15, .pointer (some ⟨g3, 0, none⟩))] (fun _ => by kernel_rfl) ?_
    refine WL.load 23 (.pointer (some ⟨g3, 0, none⟩)) (.int .u32 l.vip) 16 (by kernel_rfl) (run_ld (hC14.get 0 rfl) rfl) ?_
    refine WL.call rfl rfl rfl rfl rfl (by kernel_rfl) (IsVip2_ct l.vip w13 (by omega) (by omega)) ?_
    rintro _ w19 ⟨rfl, hF18⟩
    refine ⟨_, rfl, ?_⟩
    have hC20 := hC14.call hF18
    refine WL.runs 2 [(19, .bool (isVip l.vip)), (18, .bool (isVip l.vip))] (fun _ => by kernel_rfl) ?_
    refine WL.test_at 19 (isVip l.vip) rfl (fun t21b => ?_) (fun t21b => ?_)
    · -- (isVip l.vip) = true: true
      refine WL.runs 1 [(20, .pointer (some ⟨g3, 1, none⟩))] (fun _ => by kernel_rfl) ?_
      refine WL.load 3 (.pointer (some ⟨g3, 1, none⟩)) (.int .i64 l.first) 21 (by kernel_rfl) (run_ld (hC20.get 0 rfl) rfl) ?_
      refine WL.runs 3 [(24, .bool (decide (l.first ≥ 1024))), (23, .bool (decide (l.first ≥ 1024))), (22, .bool (decide (l.first ≥ 1024)))] (fun _ => by kernel_rfl) ?_
      refine WL.test_at 24 (decide (l.first ≥ 1024)) rfl (fun t22b => ?_) (fun t22b => ?_)
      · -- l.first ≥ 1024: true
        have t22 : (1024 : Int) ≤ l.first := by have q_ := of_decide_eq_true t22b; omega
        refine WL.runs 1 [(25, .pointer (some ⟨g3, 1, none⟩))] (fun _ => by kernel_rfl) ?_
        refine WL.load 3 (.pointer (some ⟨g3, 1, none⟩)) (.int .i64 l.first) 26 (by kernel_rfl) (run_ld (hC20.get 0 rfl) rfl) ?_
        refine WL.runs 3 [(29, .bool (decide (l.first ≤ 65528))), (28, .bool (decide (l.first ≤ 65528))), (27, .bool (decide (l.first ≤ 65528)))] (fun _ => by kernel_rfl) ?_
        refine WL.test_at 29 (decide (l.first ≤ 65528)) rfl (fun t23b => ?_) (fun t23b => ?_)
        · -- l.first ≤ 65528: true
          have t23 : l.first ≤ 65528 := by have q_ := of_decide_eq_true t23b; omega
          refine WL.runs 1 [(30, .pointer (some ⟨g3, 1, none⟩))] (fun _ => by kernel_rfl) ?_
          refine WL.load 3 (.pointer (some ⟨g3, 1, none⟩)) (.int .i64 l.first) 31 (by kernel_rfl) (run_ld (hC20.get 0 rfl) rfl) ?_
          refine WL.runs 1 [(32, .int .i64 (Int.tmod l.first 8))] (fun _ => by kernel_rfl) ?_
          refine WL.recast (show (.int .i64 (Int.tmod l.first 8) : Value) = .int .i64 (l.first % 8) from by rw [Int.tmod_eq_emod_of_nonneg (by omega)]) ?_
          refine WL.runs 3 [(35, .bool ((l.first % 8) == 0)), (34, .bool ((l.first % 8) == 0)), (33, .bool ((l.first % 8) == 0))] (fun _ => by kernel_rfl) ?_
          refine WL.test_at 35 ((l.first % 8) == 0) rfl (fun t24b => ?_) (fun t24b => ?_)
          · -- (l.first % 8) = 0: true
            have t24 : (l.first % 8) = 0 := by simpa using t24b
            refine WL.runs 1 [(36, .pointer (some ⟨g3, 3, none⟩))] (fun _ => by kernel_rfl) ?_
            refine WL.load 3 (.pointer (some ⟨g3, 3, none⟩)) (.int .i64 l.exp) 37 (by kernel_rfl) (run_ld (hC20.get 0 rfl) rfl) ?_
            refine WL.runs 3 [(40, .bool (decide (l.exp ≥ 0))), (39, .bool (decide (l.exp ≥ 0))), (38, .bool (decide (l.exp ≥ 0)))] (fun _ => by kernel_rfl) ?_
            refine WL.test_at 40 (decide (l.exp ≥ 0)) rfl (fun t25b => ?_) (fun t25b => ?_)
            · -- l.exp ≥ 0: true
              have t25 : (0 : Int) ≤ l.exp := by have q_ := of_decide_eq_true t25b; omega
              refine WL.runs 1 [(41, .pointer (some ⟨g3, 3, none⟩))] (fun _ => by kernel_rfl) ?_
              refine WL.load 3 (.pointer (some ⟨g3, 3, none⟩)) (.int .i64 l.exp) 42 (by kernel_rfl) (run_ld (hC20.get 0 rfl) rfl) ?_
              refine WL.runs 3 [(2, .bool (decide (l.exp ≤ 1099511627840))), (44, .bool (decide (l.exp ≤ 1099511627840))), (43, .bool (decide (l.exp ≤ 1099511627840)))] (fun _ => by kernel_rfl) ?_
              refine WL.done rfl ?_
              refine QX.then_normal (hK16 _ _ ?_)
              refine WC.ret ?_
              refine (hret _ _ _ rfl ?_).1
              clear hN hret hret' hK16 hK9 hK2
              refine ⟨congrArg (fun b_ => Ending.returned (Value.bool b_)) (?_ : (decide (l.exp ≤ 1099511627840)) = goodL l), hC20.fr⟩
              rw [Bool.eq_iff_iff]; simp only [goodL, goodBlock, Bool.and_eq_true, decide_eq_true_eq, beq_iff_eq, Bool.false_eq_true, false_iff, true_iff, *]; try (first | omega | (simp; omega) | (simp [*]; done) | grind)
            · -- l.exp ≥ 0: false
              have t25 : l.exp < 0 := by have q_ := of_decide_eq_false t25b; omega
              refine WL.runs 5 [(2, .bool false), (44, .bool false), (43, undef), (42, undef), (41, undef)] (fun _ => by kernel_rfl) ?_
              refine WL.done rfl ?_
              refine QX.then_normal (hK16 _ _ ?_)
              refine WC.ret ?_
              refine (hret _ _ _ rfl ?_).1
              clear hN hret hret' hK16 hK9 hK2
              refine ⟨congrArg (fun b_ => Ending.returned (Value.bool b_)) (?_ : false = goodL l), hC20.fr⟩
              rw [Bool.eq_iff_iff]; simp only [goodL, goodBlock, Bool.and_eq_true, decide_eq_true_eq, beq_iff_eq, Bool.false_eq_true, false_iff, true_iff, *]; try (first | omega | (simp; omega) | (simp [*]; done) | grind)
          · -- (l.first % 8) = 0: false
            have t24 : ¬ ((l.first % 8) = 0) := by simpa using t24b
            refine WL.runs 10 [(2, .bool false), (44, .bool false), (43, undef), (42, undef), (41, undef), (40, .bool false), (39, .bool false), (38, undef), (37, undef), (36, undef)] (fun _ => by kernel_rfl) ?_
            refine WL.done rfl ?_
            refine QX.then_normal (hK16 _ _ ?_)
            refine WC.ret ?_
            refine (hret _ _ _ rfl ?_).1
            clear hN hret hret' hK16 hK9 hK2
            refine ⟨congrArg (fun b_ => Ending.returned (Value.bool b_)) (?_ : false = goodL l), hC20.fr⟩
            rw [Bool.eq_iff_iff]; simp only [goodL, goodBlock, Bool.and_eq_true, decide_eq_true_eq, beq_iff_eq, Bool.false_eq_true, false_iff, true_iff, *]; try (first | omega | (simp; omega) | (simp [*]; done) | grind)
        · -- l.first ≤ 65528: false
          have t23 : (65528 : Int) < l.first := by have q_ := of_decide_eq_false t23b; omega
          refine WL.runs 16 [(2, .bool false), (44, .bool false), (43, undef), (42, undef), (41, undef), (40, .bool false), (39, .bool false), (38, undef), (37, undef), (36, undef), (35, .bool false), (34, .bool false), (33, undef), (32, undef), (31, undef), (30, undef)] (fun _ => by kernel_rfl) ?_
          refine WL.done rfl ?_
          refine QX.then_normal (hK16 _ _ ?_)
          refine WC.ret ?_
          refine (hret _ _ _ rfl ?_).1
          clear hN hret hret' hK16 hK9 hK2
          refine ⟨congrArg (fun b_ => Ending.returned (Value.bool b_)) (?_ : false = goodL l), hC20.fr⟩
          rw [Bool.eq_iff_iff]; simp only [goodL, goodBlock, Bool.and_eq_true, decide_eq_true_eq, beq_iff_eq, Bool.false_eq_true, false_iff, true_iff, *]; try (first | omega | (simp; omega) | (simp [*]; done) | grind)
      · -- l.first ≥ 1024: false
        have t22 : l.first < 1024 := by have q_ := of_decide_eq_false t22b; omega
        refine WL.runs 21 [(2, .bool false), (44, .bool false), (43, undef), (42, undef), (41, undef), (40, .bool false), (39, .bool false), (38, undef), (37, undef), (36, undef), (35, .bool false), (34, .bool false), (33, undef), (32, undef), (31, undef), (30, undef), (29, .bool false), (28, .bool false), (27, undef), (26, undef), (25, undef)] (fun _ => by kernel_rfl) ?_
        refine WL.done rfl ?_
        refine QX.then_normal (hK16 _ _ ?_)
        refine WC.ret ?_
        refine (hret _ _ _ rfl ?_).1
        clear hN hret hret' hK16 hK9 hK2
        refine ⟨congrArg (fun b_ => Ending.returned (Value.bool b_)) (?_ : false = goodL l), hC20.fr⟩
        rw [Bool.eq_iff_iff]; simp only [goodL, goodBlock, Bool.and_eq_true, decide_eq_true_eq, beq_iff_eq, Bool.false_eq_true, false_iff, true_iff, *]; try (first | omega | (simp; omega) | (simp [*]; done) | grind)
    · -- (isVip l.vip) = true: false
      refine WL.runs 26 [(2, .bool false), (44, .bool false), (43, undef), (42, undef), (41, undef), (40, .bool false), (39, .bool false), (38, undef), (37, undef), (36, undef), (35, .bool false), (34, .bool false), (33, undef), (32, undef), (31, undef), (30, undef), (29, .bool false), (28, .bool false), (27, undef), (26, undef), (25, undef), (24, .bool false), (23, .bool false), (22, undef), (21, undef), (20, undef)] (fun _ => by kernel_rfl) ?_
      refine WL.done rfl ?_
      refine QX.then_normal (hK16 _ _ ?_)
      refine WC.ret ?_
      refine (hret _ _ _ rfl ?_).1
      clear hN hret hret' hK16 hK9 hK2
      refine ⟨congrArg (fun b_ => Ending.returned (Value.bool b_)) (?_ : false = goodL l), hC20.fr⟩
      rw [Bool.eq_iff_iff]; simp only [goodL, goodBlock, Bool.and_eq_true, decide_eq_true_eq, beq_iff_eq, Bool.false_eq_true, false_iff, true_iff, *]; try (first | omega | (simp; omega) | (simp [*]; done) | grind)
  · -- (isHome l.dip) = true: false
    refine WL.runs 31 [(2, .bool false), (44, .bool false), (43, undef), (42, undef), (41, undef), (40, .bool false), (39, .bool false), (38, undef), (37, undef), (36, undef), (35, .bool false), (34, .bool false), (33, undef), (32, undef), (31, undef), (30, undef), (29, .bool false), (28, .bool false), (27, undef), (26, undef), (25, undef), (24, .bool false), (23, .bool false), (22, undef), (21, undef), (20, undef), (19, .bool false), (18, .bool false), (17, undef), (16, undef), (15, undef)] (fun _ => by kernel_rfl) ?_
    refine WL.done rfl ?_
    refine QX.then_normal (hK16 _ _ ?_)
    refine WC.ret ?_
    refine (hret _ _ _ rfl ?_).1
    clear hN hret hret' hK16 hK9 hK2
    refine ⟨congrArg (fun b_ => Ending.returned (Value.bool b_)) (?_ : false = goodL l), hC14.fr⟩
    rw [Bool.eq_iff_iff]; simp only [goodL, goodBlock, Bool.and_eq_true, decide_eq_true_eq, beq_iff_eq, Bool.false_eq_true, false_iff, true_iff, *]; try (first | omega | (simp; omega) | (simp [*]; done) | grind)

theorem less2_ct (a b : Lease) (w : World) : Calls Tryd.prog 43 #[.agg #[.int .u32 a.vip, .int .i64 a.first, .int .u32 a.dip, .int .i64 a.exp], .agg #[.int .u32 b.vip, .int .i64 b.first, .int .u32 b.dip, .int .i64 b.exp]] w fun e w' => e = .returned (.bool (ltL a b)) ∧ Fr w w' [] := by
  refine enterD (n := 24) Tryd.func43 rfl rfl (Nat.le_of_ble_eq_true rfl) ?_
  intro Q0 hN hret hret'
  have hC := Cx.start w
  refine WC.seq (fun K1 hK2 => ?_)
  refine WC.region ?_
  refine WL.newM hC (fun b => .pointer (some ⟨b, 0, none⟩)) (.cells #[.int .u32 a.vip, .int .i64 a.first, .int .u32 a.dip, .int .i64 a.exp] 27) 2 (fun _ => by kernel_rfl) (fun g3 w4 hb7 hF5 hC6 => ?_)
  refine WL.newM hC6 (fun b => .pointer (some ⟨b, 0, none⟩)) (.cells #[.int .u32 b.vip, .int .i64 b.first, .int .u32 b.dip, .int .i64 b.exp] 27) 3 (fun _ => by kernel_rfl) (fun g8 w9 hb12 hF10 hC11 => ?_)
  refine WL.runs 1 [(4, .bool false)] (fun _ => by kernel_rfl) ?_
  refine WL.done rfl ?_
  refine QX.then_normal (hK2 _ _ ?_)
  refine WC.seq (fun K13 hK14 => ?_)
  refine WC.region ?_
  refine WL.runs 1 [(5, .pointer (some ⟨g3, 0, none⟩))] (fun _ => by kernel_rfl) ?_
  refine WL.load 23 (.pointer (some ⟨g3, 0, none⟩)) (.int .u32 a.vip) 6 (by kernel_rfl) (run_ld (hC11.get 0 rfl) rfl) ?_
  refine WL.runs 1 [(7, .pointer (some ⟨g8, 0, none⟩))] (fun _ => by kernel_rfl) ?_
  refine WL.load 23 (.pointer (some ⟨g8, 0, none⟩)) (.int .u32 b.vip) 8 (by kernel_rfl) (run_ld (hC11.get 1 rfl) rfl) ?_
  refine WL.runs 2 [(10, .bool (decide (a.vip < b.vip))), (9, .bool (decide (a.vip < b.vip)))] (fun _ => by kernel_rfl) ?_
  refine WL.test_at 10 (decide (a.vip < b.vip)) rfl (fun t15b => ?_) (fun t15b => ?_)
  · -- a.vip < b.vip: true
    have t15 : a.vip < b.vip := by have q_ := of_decide_eq_true t15b; omega
    refine WL.runs 14 [(4, .bool true), (23, .bool true), (22, undef), (21, undef), (20, undef), (19, undef), (18, undef), (17, undef), (16, undef), (15, undef), (14, undef), (13, undef), (12, undef), (11, undef)] (fun _ => by kernel_rfl) ?_
    refine WL.done rfl ?_
    refine QX.then_normal (hK14 _ _ ?_)
    refine WC.ret ?_
    refine (hret _ _ _ rfl ?_).1
    clear hN hret hret' hK14 hK2
    exact ⟨by simp [shut, ltL, *]; try grind, hC11.fr⟩
  · -- a.vip < b.vip: false
    have t15 : b.vip ≤ a.vip := by have q_ := of_decide_eq_false t15b; omega
    refine WL.runs 1 [(11, .pointer (some ⟨g3, 0, none⟩))] (fun _ => by kernel_rfl) ?_
    refine WL.load 23 (.pointer (some ⟨g3, 0, none⟩)) (.int .u32 a.vip) 12 (by kernel_rfl) (run_ld (hC11.get 0 rfl) rfl) ?_
    refine WL.runs 1 [(13, .pointer (some ⟨g8, 0, none⟩))] (fun _ => by kernel_rfl) ?_
    refine WL.load 23 (.pointer (some ⟨g8, 0, none⟩)) (.int .u32 b.vip) 14 (by kernel_rfl) (run_ld (hC11.get 1 rfl) rfl) ?_
    refine WL.runs 2 [(16, .bool (a.vip == b.vip)), (15, .bool (a.vip == b.vip))] (fun _ => by kernel_rfl) ?_
    refine WL.test_at 16 (a.vip == b.vip) rfl (fun t16b => ?_) (fun t16b => ?_)
    · -- a.vip = b.vip: true
      have t16 : a.vip = b.vip := by simpa using t16b
      refine WL.runs 1 [(17, .pointer (some ⟨g3, 1, none⟩))] (fun _ => by kernel_rfl) ?_
      refine WL.load 3 (.pointer (some ⟨g3, 1, none⟩)) (.int .i64 a.first) 18 (by kernel_rfl) (run_ld (hC11.get 0 rfl) rfl) ?_
      refine WL.runs 1 [(19, .pointer (some ⟨g8, 1, none⟩))] (fun _ => by kernel_rfl) ?_
      refine WL.load 3 (.pointer (some ⟨g8, 1, none⟩)) (.int .i64 b.first) 20 (by kernel_rfl) (run_ld (hC11.get 1 rfl) rfl) ?_
      refine WL.runs 4 [(4, .bool (decide (a.first < b.first))), (23, .bool (decide (a.first < b.first))), (22, .bool (decide (a.first < b.first))), (21, .bool (decide (a.first < b.first)))] (fun _ => by kernel_rfl) ?_
      refine WL.done rfl ?_
      refine QX.then_normal (hK14 _ _ ?_)
      refine WC.ret ?_
      refine (hret _ _ _ rfl ?_).1
      clear hN hret hret' hK14 hK2
      exact ⟨by simp [shut, ltL, *]; try grind, hC11.fr⟩
    · -- a.vip = b.vip: false
      have t16 : ¬ (a.vip = b.vip) := by simpa using t16b
      refine WL.runs 8 [(4, .bool false), (23, .bool false), (22, .bool false), (21, undef), (20, undef), (19, undef), (18, undef), (17, undef)] (fun _ => by kernel_rfl) ?_
      refine WL.done rfl ?_
      refine QX.then_normal (hK14 _ _ ?_)
      refine WC.ret ?_
      refine (hret _ _ _ rfl ?_).1
      clear hN hret hret' hK14 hK2
      exact ⟨by simp [shut, ltL, *]; try grind, hC11.fr⟩

theorem time2_ct (now : Int) (w : World) : Calls Tryd.prog 40 #[.int .i64 now] w fun e w' => e = .returned (.bool (goodTime now)) ∧ Fr w w' [] := by
  refine enterD (n := 9) Tryd.func40 rfl rfl (Nat.le_of_ble_eq_true rfl) ?_
  intro Q0 hN hret hret'
  have hC := Cx.start w
  refine WC.seq (fun K1 hK2 => ?_)
  refine WC.region ?_
  refine WL.runs 1 [(2, .bool false)] (fun _ => by kernel_rfl) ?_
  refine WL.done rfl ?_
  refine QX.then_normal (hK2 _ _ ?_)
  refine WC.seq (fun K3 hK4 => ?_)
  refine WC.region ?_
  refine WL.runs 3 [(5, .bool (decide (now ≥ 0))), (4, .bool (decide (now ≥ 0))), (3, .int .i64 now)] (fun _ => by kernel_rfl) ?_
  refine WL.test_at 5 (decide (now ≥ 0)) rfl (fun t5b => ?_) (fun t5b => ?_)
  · -- now ≥ 0: true
    have t5 : (0 : Int) ≤ now := by have q_ := of_decide_eq_true t5b; omega
    refine WL.runs 4 [(2, .bool (decide (now ≤ 1099511627776))), (8, .bool (decide (now ≤ 1099511627776))), (7, .bool (decide (now ≤ 1099511627776))), (6, .int .i64 now)] (fun _ => by kernel_rfl) ?_
    refine WL.done rfl ?_
    refine QX.then_normal (hK4 _ _ ?_)
    refine WC.ret ?_
    refine (hret _ _ _ rfl ?_).1
    clear hN hret hret' hK4 hK2
    exact ⟨by simp [shut, goodTime]; try grind, hC.fr⟩
  · -- now ≥ 0: false
    have t5 : now < 0 := by have q_ := of_decide_eq_false t5b; omega
    refine WL.runs 4 [(2, .bool false), (8, .bool false), (7, undef), (6, undef)] (fun _ => by kernel_rfl) ?_
    refine WL.done rfl ?_
    refine QX.then_normal (hK4 _ _ ?_)
    refine WC.ret ?_
    refine (hret _ _ _ rfl ?_).1
    clear hN hret hret' hK4 hK2
    exact ⟨by simp [shut, goodTime]; try grind, hC.fr⟩

theorem inside2_ct (port first : Int) (w : World) (hp : -9223372036854775808 ≤ port ∧ port ≤ 9223372036854775807) (hf : -9223372036854775808 ≤ first ∧ first ≤ 9223372036854775807) : Calls Tryd.prog 35 #[.int .i64 port, .int .i64 first] w fun e w' => e = .returned (.bool (insideB port first)) ∧ Fr w w' [] := by
  refine enterD (n := 32) Tryd.func35 rfl rfl (Nat.le_of_ble_eq_true rfl) ?_
  intro Q0 hN hret hret'
  have hC := Cx.start w
  refine WC.seq (fun K1 hK2 => ?_)
  refine WC.region ?_
  refine WL.runs 1 [(4, .bool false)] (fun _ => by kernel_rfl) ?_
  refine WL.done rfl ?_
  refine QX.then_normal (hK2 _ _ ?_)
  refine WC.seq (fun K3 hK4 => ?_)
  refine WC.seq (fun K5 hK6 => ?_)
  refine WC.region ?_
  refine WL.runs 1 [(5, .int .i64 0)] (fun _ => by kernel_rfl) ?_
  refine WL.done rfl ?_
  refine QX.then_normal (hK6 _ _ ?_)
  refine WC.block ?_
  refine WC.loop (fun m_ E_ w_ => ∃ (k : Nat), m_ = 8 - k ∧ E_ = [(0, .int .i64 port), (1, .int .i64 first), (5, .int .i64 (k : Int))] ∧ Cx w [] w_ [] [] ∧ (k ≤ 8 ∧ (first ≤ 4611686018427387904 → ∀ j : Nat, j < k → first + (j : Int) ≠ port))) ⟨_, _, ⟨0, rfl, rfl, hC, Nat.zero_le _, fun _ j q => absurd q (Nat.not_lt_zero _)⟩, sub_of ⟨rfl, rfl, rfl, trivial⟩⟩ (fun m10 E_ w11 K7 hK8 hI9 => ?_)
  obtain ⟨k, rfl, rfl, hC12, hk, hno⟩ := hI9
  refine WC.seq (fun K13 hK14 => ?_)
  refine WC.seq (fun K15 hK16 => ?_)
  refine WC.region ?_
  refine WL.runs 2 [(7, .bool (decide ((k : Int) < 8))), (6, .int .i64 (k : Int))] (fun _ => by kernel_rfl) ?_
  refine WL.done rfl ?_
  refine QX.then_normal (hK16 _ _ ?_)
  refine WC.test_at 7 (decide ((k : Int) < 8)) rfl (fun t17b => ?_) (fun t17b => ?_)
  · -- (k : Int) < 8: true
    have t17 : (k : Int) < 8 := by have q_ := of_decide_eq_true t17b; omega
    refine WC.cond_true rfl ?_
    refine WC.skip ?_
    refine QX.then_normal (hK14 _ _ ?_)
    refine WC.seq (fun K18 hK19 => ?_)
    refine WC.block ?_
    refine WC.seq (fun K20 hK21 => ?_)
    refine WC.region ?_
    refine WL.runs 3 [(12, .bool (decide (first ≤ 4611686018427387904))), (11, .bool (decide (first ≤ 4611686018427387904))), (10, .int .i64 first)] (fun _ => by kernel_rfl) ?_
    refine WL.test_at 12 (decide (first ≤ 4611686018427387904)) rfl (fun t22b => ?_) (fun t22b => ?_)
    · -- first ≤ 4611686018427387904: true
      have t22 : first ≤ 4611686018427387904 := by have q_ := of_decide_eq_true t22b; omega
      refine WL.runs 3 [(15, .int .i64 (IntKind.i64.wrap (first + (k : Int)))), (14, .int .i64 (k : Int)), (13, .int .i64 first)] (fun _ => by kernel_rfl) ?_
      refine WL.recast (show (.int .i64 (IntKind.i64.wrap (first + (k : Int))) : Value) = .int .i64 (first + (k : Int)) from by rw [wrap_in_i64 (first + (k : Int)) (by omega) (by omega)]) ?_
      refine WL.runs 3 [(18, .bool ((first + (k : Int)) == port)), (17, .bool ((first + (k : Int)) == port)), (16, .int .i64 port)] (fun _ => by kernel_rfl) ?_
      refine WL.done rfl ?_
      refine QX.then_normal (hK21 _ _ ?_)
      refine WC.test_at 18 ((first + (k : Int)) == port) rfl (fun t23b => ?_) (fun t23b => ?_)
      · -- (first + (k : Int)) = port: true
        have t23 : (first + (k : Int)) = port := by simpa using t23b
        refine WC.cond_true rfl ?_
        refine WC.seq (fun K24 hK25 => ?_)
        refine WC.region ?_
        refine WL.runs 1 [(4, .bool true)] (fun _ => by kernel_rfl) ?_
        refine WL.done rfl ?_
        refine QX.then_normal (hK25 _ _ ?_)
        refine WC.ret ?_
        refine QX.block_ret ?_
        refine QX.then_ret ?_
        refine QX.then_ret ?_
        refine QX.block_ret ?_
        refine QX.then_ret ?_
        refine (hret _ _ _ rfl ?_).1
        clear hN hret hret' hK25 hK21 hK19 hK16 hK14 hK6 hK4 hK2
        exact ⟨by simp only [shut, insideB]; congr 2; symm; exact decide_eq_true (by omega), hC12.fr⟩
      · -- (first + (k : Int)) = port: false
        have t23 : ¬ ((first + (k : Int)) = port) := by simpa using t23b
        refine WC.cond_false rfl ?_
        refine WC.skip ?_
        refine QX.block_normal ?_
        refine QX.then_normal (hK19 _ _ ?_)
        refine WC.region ?_
        refine WL.runs 2 [(9, .int .i64 (IntKind.i64.wrap ((k : Int) + 1))), (8, .int .i64 (k : Int))] (fun _ => by kernel_rfl) ?_
        refine WL.recast (show (.int .i64 (IntKind.i64.wrap ((k : Int) + 1)) : Value) = .int .i64 ((k : Int) + 1) from by rw [wrap_in_i64 ((k : Int) + 1) (by omega) (by omega)]) ?_
        refine WL.runs 1 [(5, .int .i64 ((k : Int) + 1))] (fun _ => by kernel_rfl) ?_
        refine WL.done rfl ?_
        refine QX.then_normal ?_
        have hC26 := hC12.pick [] [] rfl rfl
        refine fun a_ ha_ => hK8 _ _ _ ?_ ⟨k + 1, rfl, rfl, hC26, by omega, fun q1 j q2 => by
          by_cases e_ : j = k
          · subst e_; omega
          · exact hno q1 j (by omega)⟩ a_ (ha_.weaken (sub_of ⟨rfl, rfl, rfl, trivial⟩))
        omega
    · -- first ≤ 4611686018427387904: false
      have t22 : (4611686018427387904 : Int) < first := by have q_ := of_decide_eq_false t22b; omega
      refine WL.runs 6 [(18, .bool false), (17, undef), (16, undef), (15, undef), (14, undef), (13, undef)] (fun _ => by kernel_rfl) ?_
      refine WL.done rfl ?_
      refine QX.then_normal (hK21 _ _ ?_)
      refine WC.cond_false rfl ?_
      refine WC.skip ?_
      refine QX.block_normal ?_
      refine QX.then_normal (hK19 _ _ ?_)
      refine WC.region ?_
      refine WL.runs 2 [(9, .int .i64 (IntKind.i64.wrap ((k : Int) + 1))), (8, .int .i64 (k : Int))] (fun _ => by kernel_rfl) ?_
      refine WL.recast (show (.int .i64 (IntKind.i64.wrap ((k : Int) + 1)) : Value) = .int .i64 ((k : Int) + 1) from by rw [wrap_in_i64 ((k : Int) + 1) (by omega) (by omega)]) ?_
      refine WL.runs 1 [(5, .int .i64 ((k : Int) + 1))] (fun _ => by kernel_rfl) ?_
      refine WL.done rfl ?_
      refine QX.then_normal ?_
      have hC27 := hC12.pick [] [] rfl rfl
      refine fun a_ ha_ => hK8 _ _ _ ?_ ⟨k + 1, rfl, rfl, hC27, by omega, fun q1 j q2 => by
        by_cases e_ : j = k
        · subst e_; omega
        · exact hno q1 j (by omega)⟩ a_ (ha_.weaken (sub_of ⟨rfl, rfl, rfl, trivial⟩))
      omega
  · -- (k : Int) < 8: false
    have t17 : (8 : Int) ≤ (k : Int) := by have q_ := of_decide_eq_false t17b; omega
    refine WC.cond_false rfl ?_
    refine WC.exit ?_
    refine QX.then_exit ?_
    refine QX.then_exit ?_
    refine QX.block_hit ?_
    refine QX.then_normal (hK4 _ _ ?_)
    refine WC.seq (fun K28 hK29 => ?_)
    refine WC.region ?_
    refine WL.runs 4 [(22, .bool (decide (port ≥ first))), (21, .bool (decide (port ≥ first))), (20, .int .i64 first), (19, .int .i64 port)] (fun _ => by kernel_rfl) ?_
    refine WL.test_at 22 (decide (port ≥ first)) rfl (fun t30b => ?_) (fun t30b => ?_)
    · -- port ≥ first: true
      have t30 : first ≤ port := by have q_ := of_decide_eq_true t30b; omega
      refine WL.runs 6 [(28, .bool (decide ((IntKind.i64.wrap (port - first)) < 8))), (27, .bool (decide ((IntKind.i64.wrap (port - first)) < 8))), (26, .bool (decide ((IntKind.i64.wrap (port - first)) < 8))), (25, .int .i64 (IntKind.i64.wrap (port - first))), (24, .int .i64 first), (23, .int .i64 port)] (fun _ => by kernel_rfl) ?_
      refine WL.test_at 28 (decide ((IntKind.i64.wrap (port - first)) < 8)) rfl (fun t31b => ?_) (fun t31b => ?_)
      · -- (IntKind.i64.wrap (port - first)) < 8: true
        have t31 : (IntKind.i64.wrap (port - first)) < 8 := by have q_ := of_decide_eq_true t31b; omega
        refine WL.runs 4 [(4, .bool (decide (first > 4611686018427387904))), (31, .bool (decide (first > 4611686018427387904))), (30, .bool (decide (first > 4611686018427387904))), (29, .int .i64 first)] (fun _ => by kernel_rfl) ?_
        refine WL.done rfl ?_
        refine QX.then_normal (hK29 _ _ ?_)
        refine WC.ret ?_
        refine (hret _ _ _ rfl ?_).1
        clear hN hret hret' hK29 hK16 hK14 hK6 hK4 hK2
        have hno_ := inside_no (port := port) (first := first) (fun q1 j q2 => hno q1 j (by omega))
        refine ⟨congrArg (fun b_ => Ending.returned (Value.bool b_)) (?_ : (decide (first > 4611686018427387904)) = insideB port first), hC12.fr⟩
        by_cases hf_ : first ≤ 4611686018427387904
        · (try rw [hno_ hf_]); try (simp; try omega)
        · (try have hw_ : IntKind.i64.wrap (port - first) = port - first := wrap_in_i64 _ (by omega) (by omega)); simp only [insideB]; rw [Bool.eq_iff_iff]; simp; try omega
      · -- (IntKind.i64.wrap (port - first)) < 8: false
        have t31 : (8 : Int) ≤ (IntKind.i64.wrap (port - first)) := by have q_ := of_decide_eq_false t31b; omega
        refine WL.runs 4 [(4, .bool false), (31, .bool false), (30, undef), (29, undef)] (fun _ => by kernel_rfl) ?_
        refine WL.done rfl ?_
        refine QX.then_normal (hK29 _ _ ?_)
        refine WC.ret ?_
        refine (hret _ _ _ rfl ?_).1
        clear hN hret hret' hK29 hK16 hK14 hK6 hK4 hK2
        have hno_ := inside_no (port := port) (first := first) (fun q1 j q2 => hno q1 j (by omega))
        refine ⟨congrArg (fun b_ => Ending.returned (Value.bool b_)) (?_ : false = insideB port first), hC12.fr⟩
        by_cases hf_ : first ≤ 4611686018427387904
        · (try rw [hno_ hf_]); try (simp; try omega)
        · (try have hw_ : IntKind.i64.wrap (port - first) = port - first := wrap_in_i64 _ (by omega) (by omega)); simp only [insideB]; rw [Bool.eq_iff_iff]; simp; try omega
    · -- port ≥ first: false
      have t30 : port < first := by have q_ := of_decide_eq_false t30b; omega
      refine WL.runs 10 [(4, .bool false), (31, .bool false), (30, undef), (29, undef), (28, .bool false), (27, .bool false), (26, undef), (25, undef), (24, undef), (23, undef)] (fun _ => by kernel_rfl) ?_
      refine WL.done rfl ?_
      refine QX.then_normal (hK29 _ _ ?_)
      refine WC.ret ?_
      refine (hret _ _ _ rfl ?_).1
      clear hN hret hret' hK29 hK16 hK14 hK6 hK4 hK2
      have hno_ := inside_no (port := port) (first := first) (fun q1 j q2 => hno q1 j (by omega))
      refine ⟨congrArg (fun b_ => Ending.returned (Value.bool b_)) (?_ : false = insideB port first), hC12.fr⟩
      by_cases hf_ : first ≤ 4611686018427387904
      · (try rw [hno_ hf_]); try (simp; try omega)
      · (try have hw_ : IntKind.i64.wrap (port - first) = port - first := wrap_in_i64 _ (by omega) (by omega)); simp only [insideB]; rw [Bool.eq_iff_iff]; simp; try omega

theorem Num_nil  (w : World) : Calls Tryd.prog 22 #[.nilIface] w fun e w' => e = .returned (.int .i64 0) ∧ Fr w w' [] := by
  refine enterD (n := 19) Tryd.func22 rfl rfl (Nat.le_of_ble_eq_true rfl) ?_
  intro Q0 hN hret hret'
  have hC := Cx.start w
  refine WC.seq (fun K1 hK2 => ?_)
  refine WC.region ?_
  refine WL.runs 1 [(2, .int .i64 0)] (fun _ => by kernel_rfl) ?_
  refine WL.done rfl ?_
  refine QX.then_normal (hK2 _ _ ?_)
  refine WC.seq (fun K3 hK4 => ?_)
  refine WC.seq (fun K5 hK6 => ?_)
  refine WC.region ?_
  refine WL.runs 2 [(6, .bool true), (5, .nilIface)] (fun _ => by kernel_rfl) ?_
  refine WL.done rfl ?_
  refine QX.then_normal (hK6 _ _ ?_)
  refine WC.cond_true rfl ?_
  refine WC.seq (fun K7 hK8 => ?_)
  refine WC.region ?_
  refine WL.runs 1 [(2, .int .i64 0)] (fun _ => by kernel_rfl) ?_
  refine WL.done rfl ?_
  refine QX.then_normal (hK8 _ _ ?_)
  refine WC.ret ?_
  refine QX.then_ret ?_
  refine (hret _ _ _ rfl ?_).1
  clear hN hret hret' hK8 hK6 hK4 hK2
  exact ⟨rfl, hC.fr⟩

theorem Num_some (c : Int) (w : World) (hc : c ≠ 0) : Calls Tryd.prog 22 #[.iface 32 (.int .i64 c)] w fun e w' => e = .returned (.int .i64 c) ∧ Fr w w' [] := by
  refine enterD (n := 19) Tryd.func22 rfl rfl (Nat.le_of_ble_eq_true rfl) ?_
  intro Q0 hN hret hret'
  have hC := Cx.start w
  refine WC.seq (fun K1 hK2 => ?_)
  refine WC.region ?_
  refine WL.runs 1 [(2, .int .i64 0)] (fun _ => by kernel_rfl) ?_
  refine WL.done rfl ?_
  refine QX.then_normal (hK2 _ _ ?_)
  refine WC.seq (fun K3 hK4 => ?_)
  refine WC.seq (fun K5 hK6 => ?_)
  refine WC.region ?_
  refine WL.runs 2 [(6, .bool false), (5, .iface 32 (.int .i64 c))] (fun _ => by kernel_rfl) ?_
  refine WL.done rfl ?_
  refine QX.then_normal (hK6 _ _ ?_)
  refine WC.cond_false rfl ?_
  refine WC.skip ?_
  refine QX.then_normal (hK4 _ _ ?_)
  refine WC.seq (fun K7 hK8 => ?_)
  refine WC.region ?_
  refine WL.runs 7 [(4, .bool true), (3, .int .i64 c), (11, .bool true), (10, .int .i64 c), (7, .tuple #[.int .i64 c, .bool true]), (9, .tuple #[.int .i64 c, .bool true]), (8, .iface 32 (.int .i64 c))] (fun _ => by kernel_rfl) ?_
  refine WL.done rfl ?_
  refine QX.then_normal (hK8 _ _ ?_)
  refine WC.seq (fun K9 hK10 => ?_)
  refine WC.seq (fun K11 hK12 => ?_)
  refine WC.region ?_
  refine WL.runs 6 [(17, .bool (c == 0)), (16, .bool (c == 0)), (15, .int .i64 c), (14, .bool false), (13, .bool false), (12, .bool true)] (fun _ => by kernel_rfl) ?_
  refine WL.done rfl ?_
  refine QX.then_normal (hK12 _ _ ?_)
  refine WC.know 17 (.bool (c == 0)) (.bool false) rfl (congrArg Value.bool (by simpa using hc)) ?_
  refine WC.cond_false rfl ?_
  refine WC.skip ?_
  refine QX.then_normal (hK10 _ _ ?_)
  refine WC.seq (fun K13 hK14 => ?_)
  refine WC.region ?_
  refine WL.runs 2 [(2, .int .i64 c), (18, .int .i64 c)] (fun _ => by kernel_rfl) ?_
  refine WL.done rfl ?_
  refine QX.then_normal (hK14 _ _ ?_)
  refine WC.ret ?_
  refine (hret _ _ _ rfl ?_).1
  clear hN hret hret' hK14 hK12 hK10 hK8 hK6 hK4 hK2
  exact ⟨rfl, hC.fr⟩

theorem Num_ct (c : Int) (w : World) : Calls Tryd.prog 22 #[errV 32 c] w fun e w' => e = .returned (.int .i64 c) ∧ Fr w w' [] := by
  by_cases h : c = 0
  · subst h; exact Num_nil w
  · have e : errV 32 c = .iface 32 (.int .i64 c) := by unfold errV; rw [if_neg h]
    rw [e]; exact Num_some c w h
end Go.Proofs.YtoambminolcgfaaDoor
