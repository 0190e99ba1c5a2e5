/- Contracts of functions of the program, each proved by a walk through its code; conditions stand in the statements. -/
import Derived.Test.YtibkndhgeeoidaaRgH
namespace Go.Proofs.Ytibkndhgeeoidaa
set_option linter.unusedSimpArgs false
set_option linter.unusedVariables false
set_option linter.unusedSectionVars false
open Go Go.RowKit Go.Tw
set_option linter.unusedVariables false
set_option maxRecDepth 20000
/-! ### the choice stays -/
def leO (o : Option (Int × EndV)) (b : Int) : Prop := ∀ x, o = some x → x.1 ≤ b
def RO (d : EndV) (o o' : Option (Int × EndV)) : Prop := o = o' ∨ ∃ bd, o' = some (bd, d) ∧ leO o bd
theorem stepC_le {f : FlowV} {x : EndV} {j : Nat} {o : Option (Int × EndV)} {b : Int} (h : leO o b) (hs : scoreE f x j ≤ b) : leO (stepC f x j o) b := by
  intro y hy
  cases o with
  | none => simp [stepC] at hy; subst hy; exact hs
  | some p =>
    obtain ⟨b0, c0⟩ := p
    simp only [stepC] at hy
    split at hy
    · cases hy; exact hs
    · cases hy; exact h _ rfl
theorem RO_step {f : FlowV} {d x : EndV} {j : Nat} {o o' : Option (Int × EndV)} (h : RO d o o') : RO d (stepC f x j o) (stepC f x j o') := by
  rcases h with rfl | ⟨bd, rfl, hl⟩
  · exact .inl rfl
  · by_cases hb : bd < scoreE f x j
    · left
      have h2 : stepC f x j (some (bd, d)) = some (scoreE f x j, x) := if_pos hb
      rw [h2]
      cases o with
      | none => rfl
      | some p => obtain ⟨b0, c0⟩ := p; have := hl _ rfl; exact if_pos (by simp only at this; omega)
    · right
      have h2 : stepC f x j (some (bd, d)) = some (bd, d) := if_neg hb
      exact ⟨bd, h2, stepC_le hl (by omega)⟩
theorem RO_in {f : FlowV} {d x : EndV} {o o' : Option (Int × EndV)} (h : RO d o o') : ∀ n, RO d (innerC f x n o) (innerC f x n o')
  | 0 => h
  | n + 1 => RO_step (RO_in h n)
theorem RO_fold {f : FlowV} {d : EndV} : ∀ (B : List EndV) {o o' : Option (Int × EndV)}, RO d o o' → RO d (B.foldl (fun o e => innerC f e (wE e) o) o) (B.foldl (fun o e => innerC f e (wE e) o) o')
  | [], _, _, h => h
  | x :: B, _, _, h => RO_fold B (RO_in h (wE x))
theorem RO_self {f : FlowV} {d : EndV} (o : Option (Int × EndV)) : ∀ n, RO d o (innerC f d n o)
  | 0 => .inl rfl
  | n + 1 => by
    rcases RO_self o n with h | ⟨bd, h, hl⟩
    · show RO d o (stepC f d n (innerC f d n o))
      rw [← h]
      cases o with
      | none => exact .inr ⟨_, rfl, fun x hx => by cases hx⟩
      | some p =>
        obtain ⟨b0, c0⟩ := p
        by_cases hb : b0 < scoreE f d n
        · exact .inr ⟨_, if_pos hb, fun x hx => by cases hx; simp only; omega⟩
        · exact .inl (if_neg hb).symm
    · show RO d o (stepC f d n (innerC f d n o))
      rw [h]
      by_cases hb : bd < scoreE f d n
      · exact .inr ⟨_, if_pos hb, fun x hx => by have := hl x hx; omega⟩
      · exact .inr ⟨bd, if_neg hb, hl⟩
theorem choose_out {f : FlowV} {A B : List EndV} {d c : EndV} {b : Int} (h : chooseC f (A ++ d :: B) = some (b, c)) (hc : d ≠ c) : chooseC f (A ++ B) = some (b, c) := by
  unfold chooseC at *
  rw [List.foldl_append, List.foldl_cons] at h
  rw [List.foldl_append]
  rcases RO_fold B (RO_self (f := f) (d := d) (A.foldl (fun o e => innerC f e (wE e) o) none) (wE d)) with h1 | ⟨bd, h1, _⟩
  · rw [h1]; exact h
  · rw [h1] at h; cases h; exact absurd rfl hc
theorem in_other {f : FlowV} {x c : EndV} {o : Option (Int × EndV)} {b : Int} (hx : x ≠ c) : ∀ n, innerC f x n o = some (b, c) → o = some (b, c) ∧ ∀ b' c', b ≤ b' → innerC f x n (some (b', c')) = some (b', c')
  | 0, h => ⟨h, fun _ _ _ => rfl⟩
  | n + 1, h => by
    have h0 : stepC f x n (innerC f x n o) = some (b, c) := h
    cases h1 : innerC f x n o with
    | none => rw [h1] at h0; cases h0; exact absurd rfl hx
    | some p =>
      obtain ⟨b0, c0⟩ := p
      rw [h1] at h0
      by_cases hb : b0 < scoreE f x n
      · have := (if_pos hb).symm.trans h0; cases this; exact absurd rfl hx
      · have h2 := (if_neg hb).symm.trans h0
        cases h2
        obtain ⟨h3, h4⟩ := in_other hx n h1
        refine ⟨h3, fun b' c' hle => ?_⟩
        show stepC f x n (innerC f x n (some (b', c'))) = _
        rw [h4 b' c' hle]
        exact if_neg (by omega)
theorem fold_other {f : FlowV} {c : EndV} {b : Int} : ∀ (B : List EndV) {o : Option (Int × EndV)}, c ∉ B → B.foldl (fun o e => innerC f e (wE e) o) o = some (b, c) → o = some (b, c) ∧ ∀ b' c', b ≤ b' → B.foldl (fun o e => innerC f e (wE e) o) (some (b', c')) = some (b', c')
  | [], o, _, h => ⟨h, fun _ _ _ => rfl⟩
  | x :: B, o, hn, h => by
    rw [List.foldl_cons] at h
    obtain ⟨h1, h2⟩ := fold_other B (fun q => hn (List.mem_cons_of_mem _ q)) h
    obtain ⟨h3, h4⟩ := in_other (show x ≠ c from fun q => hn (by rw [q]; exact List.mem_cons_self ..)) _ h1
    refine ⟨h3, fun b' c' hle => ?_⟩
    rw [List.foldl_cons, h4 b' c' hle]
    exact h2 b' c' hle
theorem in_same {f : FlowV} {e e' : EndV} (hd : e'.dip = e.dip) {o : Option (Int × EndV)} : ∀ n, (innerC f e n o = o ∧ innerC f e' n o = o) ∨ ∃ b, innerC f e n o = some (b, e) ∧ innerC f e' n o = some (b, e')
  | 0 => .inl ⟨rfl, rfl⟩
  | n + 1 => by
    have hs : scoreE f e' n = scoreE f e n := by unfold scoreE; rw [hd]
    rcases in_same hd (o := o) n with ⟨h1, h2⟩ | ⟨b, h1, h2⟩
    · show (stepC f e n (innerC f e n o) = o ∧ stepC f e' n (innerC f e' n o) = o) ∨ ∃ b, stepC f e n (innerC f e n o) = some (b, e) ∧ stepC f e' n (innerC f e' n o) = some (b, e')
      rw [h1, h2]
      cases o with
      | none => exact .inr ⟨_, rfl, by show some (scoreE f e' n, e') = _; rw [hs]⟩
      | some p =>
        obtain ⟨b0, c0⟩ := p
        by_cases hb : b0 < scoreE f e n
        · exact .inr ⟨scoreE f e n, if_pos hb, (if_pos (by rw [hs]; exact hb)).trans (by rw [hs])⟩
        · exact .inl ⟨if_neg hb, if_neg (by rw [hs]; exact hb)⟩
    · right
      show ∃ b, stepC f e n (innerC f e n o) = some (b, e) ∧ stepC f e' n (innerC f e' n o) = some (b, e')
      rw [h1, h2]
      by_cases hb : b < scoreE f e n
      · exact ⟨scoreE f e n, if_pos hb, (if_pos (by rw [hs]; exact hb)).trans (by rw [hs])⟩
      · exact ⟨b, if_neg hb, if_neg (by rw [hs]; exact hb)⟩
theorem in_more2 {f : FlowV} {e : EndV} {o : Option (Int × EndV)} {n : Nat} {b : Int} (h : innerC f e n o = some (b, e)) : ∀ k, ∃ b', b ≤ b' ∧ innerC f e (n + k) o = some (b', e)
  | 0 => ⟨b, Int.le_refl _, h⟩
  | k + 1 => by
    obtain ⟨b', hle, h1⟩ := in_more2 h k
    by_cases hb : b' < scoreE f e (n + k)
    · exact ⟨scoreE f e (n + k), by omega, by show stepC f e (n + k) (innerC f e (n + k) o) = _; rw [h1]; exact if_pos hb⟩
    · exact ⟨b', hle, by show stepC f e (n + k) (innerC f e (n + k) o) = _; rw [h1]; exact if_neg hb⟩
theorem fold_label {f : FlowV} {b : Int} {c : EndV} : ∀ (A : List EndV) {o : Option (Int × EndV)}, A.foldl (fun o e => innerC f e (wE e) o) o = some (b, c) → o = some (b, c) ∨ c ∈ A
  | [], o, h => .inl h
  | x :: A, o, h => by
    rcases fold_label A h with h1 | h1
    · by_cases hx : x = c
      · exact .inr (hx ▸ List.mem_cons_self ..)
      · exact .inl (in_other hx _ h1).1
    · exact .inr (List.mem_cons_of_mem _ h1)
theorem choose_grow {f : FlowV} {A B : List EndV} {e e' : EndV} {b : Int} (h : chooseC f (A ++ e :: B) = some (b, e)) (hA : e ∉ A) (hB : e ∉ B) (hd : e'.dip = e.dip) (hw : wE e ≤ wE e') : ∃ b', chooseC f (A ++ e' :: B) = some (b', e') := by
  unfold chooseC at *
  rw [List.foldl_append, List.foldl_cons] at *
  obtain ⟨h1, h2⟩ := fold_other B hB h
  rcases in_same hd (f := f) (o := A.foldl (fun o e => innerC f e (wE e) o) none) (wE e) with ⟨h3, _⟩ | ⟨b1, h3, h4⟩
  · rw [h3] at h1
    rcases fold_label A h1 with h5 | h5
    · cases h5
    · exact absurd h5 hA
  · rw [h3] at h1; cases h1
    obtain ⟨b', hle, h5⟩ := in_more2 h4 (wE e' - wE e)
    rw [show wE e + (wE e' - wE e) = wE e' by omega] at h5
    exact ⟨b', by rw [h5]; exact h2 b' e' hle⟩
def grE (e : EndV) (g : Int) (x : EndV) : EndV := if x = e then ⟨x.dip, x.port, min 16 (x.weight + g)⟩ else x
def growL (e : EndV) (g : Int) (L : List EndV) (j : Nat) : List EndV := (L.take j).map (grE e g) ++ L.drop j
theorem growL_0 (e : EndV) (g : Int) (L : List EndV) : growL e g L 0 = L := by simp [growL]
theorem growL_len (e : EndV) (g : Int) (L : List EndV) (j : Nat) : (growL e g L j).length = L.length := by simp [growL]; omega
theorem growL_get {e : EndV} {g : Int} {L : List EndV} {j : Nat} {x : EndV} (h : (growL e g L j)[j]? = some x) : L[j]? = some x := by
  unfold growL at h
  by_cases hj : j ≤ L.length
  · rw [List.getElem?_append_right (by simp; omega)] at h
    simp only [List.length_map, List.length_take, List.getElem?_drop] at h
    rw [show j + (j - min j L.length) = j by omega] at h; exact h
  · rw [List.getElem?_eq_none (by simp; omega)] at h; cases h
theorem growL_succ {e : EndV} {g : Int} {L : List EndV} {j : Nat} {x : EndV} (h : L[j]? = some x) : growL e g L (j + 1) = (growL e g L j).set j (grE e g x) := by
  obtain ⟨hj, rfl⟩ := List.getElem?_eq_some_iff.1 h
  unfold growL
  rw [List.take_succ_eq_append_getElem hj, List.map_append, List.set_append_right _ _ (by simp; omega), List.drop_eq_getElem_cons hj]
  simp only [List.map_cons, List.map_nil, List.length_map, List.length_take, List.append_assoc, List.singleton_append]
  rw [show j - min j L.length = 0 by omega]; rfl
theorem growL_hit {e : EndV} {g : Int} {L : List EndV} {j : Nat} {x : EndV} (h : (growL e g L j)[j]? = some x) (hx : x = e) : (growL e g L j).set j ⟨x.dip, x.port, min 16 (x.weight + g)⟩ = growL e g L (j + 1) := by
  rw [growL_succ (growL_get h)]; unfold grE; rw [if_pos hx]
theorem set_same {α : Type} {L : List α} {j : Nat} {x : α} (h : L[j]? = some x) : L.set j x = L := by
  obtain ⟨hj, rfl⟩ := List.getElem?_eq_some_iff.1 h; simp
theorem growL_miss {e : EndV} {g : Int} {L : List EndV} {j : Nat} {x : EndV} (h : (growL e g L j)[j]? = some x) (hx : x ≠ e) : growL e g L j = growL e g L (j + 1) := by
  rw [growL_succ (growL_get h)]; unfold grE; rw [if_neg hx, set_same h]
theorem growL_end {e : EndV} {g : Int} {L : List EndV} {j : Nat} (h : L.length ≤ j) : growL e g L j = L.map (grE e g) := by
  unfold growL; rw [List.take_of_length_le h, List.drop_eq_nil_of_le h, List.append_nil]
theorem good_in {L : List EndV} (h : goodE L = true) {x : EndV} (hx : x ∈ L) : goodE1 x = true := by
  unfold goodE at h
  simp only [Bool.and_eq_true, List.all_eq_true, decide_eq_true_eq] at h
  exact h.2.1 x hx
theorem good_w {x : EndV} (h : goodE1 x = true) : 1 ≤ x.weight ∧ x.weight ≤ 16 := by
  unfold goodE1 at h
  simp only [Bool.and_eq_true, decide_eq_true_eq] at h
  omega
theorem in_some {f : FlowV} {e : EndV} {o : Option (Int × EndV)} (h : o.isSome = true) : ∀ n, (innerC f e n o).isSome = true
  | 0 => h
  | n + 1 => by
    show (stepC f e n (innerC f e n o)).isSome = true
    cases h1 : innerC f e n o with
    | none => rfl
    | some p => obtain ⟨b, c⟩ := p; simp only [stepC]; split <;> rfl
theorem fold_some {f : FlowV} : ∀ (B : List EndV) {o : Option (Int × EndV)}, o.isSome = true → (B.foldl (fun o e => innerC f e (wE e) o) o).isSome = true
  | [], _, h => h
  | x :: B, _, h => fold_some B (in_some h (wE x))
theorem found_good {f : FlowV} {L : List EndV} (h : goodE L = true) (hn : L ≠ []) : foundB f L = true := by
  cases L with
  | nil => exact absurd rfl hn
  | cons x B =>
    unfold foundB chooseC
    rw [List.foldl_cons]
    have hw := good_w (good_in h (List.mem_cons_self ..))
    refine fold_some B ?_
    obtain ⟨n, hn⟩ : ∃ n, wE x = n + 1 := ⟨wE x - 1, by unfold wE; omega⟩
    rw [hn]
    show (stepC f x n (innerC f x n none)).isSome = true
    cases h1 : innerC f x n none with
    | none => rfl
    | some p => obtain ⟨b, c⟩ := p; simp only [stepC]; split <;> rfl
theorem chosen_some {f : FlowV} {L : List EndV} (h : foundB f L = true) : ∃ b, chooseC f L = some (b, chosenE f L) := by
  unfold foundB at h; unfold chosenE
  cases h1 : chooseC f L with
  | none => rw [h1] at h; cases h
  | some p => exact ⟨p.1, rfl⟩
theorem chosen_of {f : FlowV} {L : List EndV} {b : Int} {c : EndV} (h : chooseC f L = some (b, c)) : foundB f L = true ∧ chosenE f L = c := by unfold foundB chosenE; rw [h]; exact ⟨rfl, rfl⟩
theorem out_law {f : FlowV} {L : List EndV} {i : Nat} {d : EndV} (hf : foundB f L = true) (hd : L[i]? = some d) (hne : d ≠ chosenE f L) : foundB f (L.take i ++ L.drop (i + 1)) = true ∧ chosenE f (L.take i ++ L.drop (i + 1)) = chosenE f L := by
  obtain ⟨b, hb⟩ := chosen_some hf
  obtain ⟨hi, rfl⟩ := List.getElem?_eq_some_iff.1 hd
  have hL : L = L.take i ++ L[i] :: L.drop (i + 1) := by rw [← List.drop_eq_getElem_cons hi, List.take_append_drop]
  have h2 : chooseC f (L.take i ++ L[i] :: L.drop (i + 1)) = some (b, chosenE f L) := by rw [← hL]; exact hb
  exact chosen_of (choose_out h2 hne)
theorem good_nodup {L : List EndV} (h : goodE L = true) : (L.map (·.dip)).Nodup := by
  unfold goodE at h
  simp only [Bool.and_eq_true, decide_eq_true_eq] at h
  exact h.2.2
theorem map_no {e : EndV} {g : Int} : ∀ {L : List EndV}, e ∉ L → L.map (grE e g) = L
  | [], _ => rfl
  | x :: L, h => by
    rw [List.map_cons, map_no (fun q => h (List.mem_cons_of_mem _ q))]
    unfold grE; rw [if_neg (show ¬ x = e from fun q => h (by rw [q]; exact List.mem_cons_self ..))]
theorem grow_law {f : FlowV} {L : List EndV} {g : Int} (hg : goodE L = true) (hf : foundB f L = true) (h0 : 0 ≤ g) : foundB f (L.map (grE (chosenE f L) g)) = true ∧ (chosenE f (L.map (grE (chosenE f L) g))).dip = (chosenE f L).dip := by
  obtain ⟨b, hb⟩ := chosen_some hf
  generalize he : chosenE f L = e at *
  have hmem : e ∈ L := by
    rcases fold_label L hb with h | h
    · cases h
    · exact h
  obtain ⟨A, B, rfl⟩ := List.append_of_mem hmem
  have hn := good_nodup hg
  rw [List.map_append, List.map_cons, List.nodup_append] at hn
  obtain ⟨hn1, hn2, hn3⟩ := hn
  have hA : e ∉ A := fun q => hn3 e.dip (List.mem_map_of_mem q) e.dip (List.mem_cons_self ..) rfl
  have hB : e ∉ B := fun q => (List.nodup_cons.1 hn2).1 (List.mem_map_of_mem q)
  have hw := good_w (good_in hg hmem)
  obtain ⟨b', hb'⟩ := choose_grow (e' := grE e g e) hb hA hB (by unfold grE; rw [if_pos rfl]) (by unfold grE wE; rw [if_pos rfl]; simp only; omega)
  rw [List.map_append, List.map_cons, map_no hA, map_no hB]
  obtain ⟨h1, h2⟩ := chosen_of hb'
  exact ⟨h1, by rw [h2]; unfold grE; rw [if_pos rfl]⟩
def idxO (out : Int) (n : Nat) : Nat := ((IntKind.u64.wrap out).tmod (n : Int)).toNat
theorem u64_nn (x : Int) : 0 ≤ IntKind.u64.wrap x := by rw [IntKind.wrap_u64]; omega
theorem idxO_eq (out : Int) {n : Nat} (hn : 0 < n) : (IntKind.u64.wrap out).tmod (n : Int) = (idxO out n : Int) ∧ idxO out n < n := by
  unfold idxO
  rw [Int.tmod_eq_emod_of_nonneg (u64_nn out)]
  have h1 := Int.emod_nonneg (IntKind.u64.wrap out) (show (n : Int) ≠ 0 by omega)
  have h2 := Int.emod_lt_of_pos (IntKind.u64.wrap out) (show (0 : Int) < n by omega)
  omega
def gmod (grow : Int) : Int := (IntKind.u64.wrap grow).tmod 16
theorem gmod_b (grow : Int) : 0 ≤ gmod grow ∧ gmod grow < 16 := by
  unfold gmod
  rw [Int.tmod_eq_emod_of_nonneg (u64_nn grow)]
  omega
theorem wf_gr {e : EndV} {g : Int} {L : List EndV} (h : ∀ x ∈ L, wfE x) (hg : goodE L = true) (h0 : 0 ≤ g) : ∀ x ∈ L.map (grE e g), wfE x := by
  intro x hx
  obtain ⟨y, hy, rfl⟩ := List.mem_map.1 hx
  have h1 := h y hy
  have h2 := good_w (good_in hg hy)
  unfold grE; split
  · exact ⟨h1.dip, h1.port, ⟨by simp only; omega, by simp only; omega⟩⟩
  · exact h1
theorem wf_out {L : List EndV} {i : Nat} (h : ∀ x ∈ L, wfE x) : ∀ x ∈ L.take i ++ L.drop (i + 1), wfE x := fun x hx => by
  rcases List.mem_append.1 hx with q | q
  · exact h x (List.mem_of_mem_take q)
  · exact h x (List.mem_of_mem_drop q)
theorem endV_beq {a b : EndV} : (a.dip == b.dip && (a.port == b.port && (a.weight == b.weight && true))) = decide (a = b) := by
  rw [Bool.eq_iff_iff]
  simp only [Bool.and_eq_true, beq_iff_eq, decide_eq_true_eq, and_true]
  constructor
  · rintro ⟨h1, h2, h3⟩; cases a; cases b; simp only at h1 h2 h3; subst h1 h2 h3; rfl
  · rintro rfl; exact ⟨rfl, rfl, rfl⟩
theorem endV_eq {a b : EndV} (h : (a.dip == b.dip && (a.port == b.port && (a.weight == b.weight && true))) = true) : a = b := by rw [endV_beq] at h; simpa using h
theorem endV_ne {a b : EndV} (h : (a.dip == b.dip && (a.port == b.port && (a.weight == b.weight && true))) = false) : a ≠ b := by rw [endV_beq] at h; simpa using h
set_option maxHeartbeats 1000000 in
theorem stays_ct (f : FlowV) (A : Option Addr) (c : Nat) (L : List EndV) (out grow : Int) (w : World) (hr : Rd w 3 cellsE A L) (hwf : ∀ e ∈ L, wfE e) (hlc : L.length ≤ c) : Calls Try.prog 10 #[.agg #[.int .i64 f.proto, .int .u32 f.src, .int .i64 f.sp, .int .u32 f.dst, .int .i64 f.dp], .slice A L.length c, .int .i64 out, .int .i64 grow] w fun e w' => e = .returned (.bool true) ∧ Fr w w' [] := by
 refine enterD (n := 123) Try.func10 rfl rfl (Nat.le_of_ble_eq_true rfl) ?_
 intro Q0 hN hret hret'
 obtain ⟨hg0_, hg1_⟩ := gmod_b grow
 have hC := Cx.start w
 refine WCs (fun K1 hK2 => ?_)
 refine WCg ?_
 refine WL.newM hC (fun b => .pointer (some ⟨b, 0, none⟩)) (.cells #[.int .i64 f.proto, .int .u32 f.src, .int .i64 f.sp, .int .u32 f.dst, .int .i64 f.dp] 25) 4 (fun _ => by kernel_rfl) (fun g3 w4 hb7 hF5 hC6 => ?_)
 refine WLq 1 [(8, .bool false)] (WLd rfl (QXn (hK2 _ _ ?_)))
 refine WCs (fun K8 hK9 => ?_)
 refine WCs (fun eY az => ?_)
 refine WCg ?_
 refine WLc rfl rfl rfl rfl rfl (by kernel_rfl) (alive_ct w4) ?_
 rintro _ d4 ⟨rfl, dj⟩
 refine ⟨_, rfl, ?_⟩
 have bg := hC6.call dj
 refine WLq 1 [(19, .bool false)] (WLd rfl (QXn (az _ _ ?_)))
 refine WCf rfl (WC.skip (QXn (hK9 _ _ ?_)))
 refine WCs (fun eZ aA => ?_)
 refine WCs (fun e0 an => ?_)
 refine WCg (WLq 4 [(23, .bool ((L.length : Int) == 0)), (22, .bool ((L.length : Int) == 0)), (21, .int .i64 (L.length : Int)), (20, .slice A L.length c)] ?_)
 refine WLa 23 ((L.length : Int) == 0) rfl (fun bh => ?_) (fun bh => ?_)
 ·
  have d5 : (L.length : Int) = 0 := by simpa using bh
  refine WLq 9 [(32, .bool true), (31, undef), (30, undef), (29, undef), (28, .bool true), (27, .bool true), (26, undef), (25, undef), (24, undef)] (WLd rfl (QXn (an _ _ ?_)))
  refine WCt rfl ?_
  refine WCs (fun e1 dk => ?_)
  refine WCg (WLq 1 [(8, .bool true)] (WLd rfl (QXn (dk _ _ ?_))))
  refine WC.ret ?_
  refine QXr ?_
  refine (hret _ _ _ rfl ?_).1
  exact ⟨rfl, bg.fr⟩
 ·
  have d5 : ¬ ((L.length : Int) = 0) := by simpa using bh
  refine WLq 5 [(28, .bool (decide ((L.length : Int) > 100))), (27, .bool (decide ((L.length : Int) > 100))), (26, .bool (decide ((L.length : Int) > 100))), (25, .int .i64 (L.length : Int)), (24, .slice A L.length c)] ?_
  refine WLa 28 (decide ((L.length : Int) > 100)) rfl (fun bM => ?_) (fun bM => ?_)
  ·
   have d6 : (100 : Int) < (L.length : Int) := by have q_ := of_decide_eq_true bM; omega
   refine WLq 4 [(32, .bool true), (31, undef), (30, undef), (29, undef)] (WLd rfl (QXn (an _ _ ?_)))
   refine WCt rfl ?_
   refine WCs (fun e2 dl => ?_)
   refine WCg (WLq 1 [(8, .bool true)] (WLd rfl (QXn (dl _ _ ?_))))
   refine WC.ret ?_
   refine QXr ?_
   refine (hret _ _ _ rfl ?_).1
   exact ⟨rfl, bg.fr⟩
  ·
   have d6 : (L.length : Int) ≤ 100 := by have q_ := of_decide_eq_false bM; omega
   refine WLq 1 [(29, .slice A L.length c)] ?_
   refine WLc rfl rfl rfl rfl rfl (by kernel_rfl) (REnds_ct A c L d4 (Rd.fr hr bg.fr) hwf (by omega)) ?_
   rintro _ d7 ⟨rfl, dm⟩
   refine ⟨_, rfl, ?_⟩
   have bi := bg.call dm
   refine WLq 2 [(32, .bool (!(goodE L))), (31, .bool (!(goodE L)))] (WLd rfl (QXn (an _ _ ?_)))
   refine WCa 32 (!(goodE L)) rfl (fun aP => ?_) (fun aP => ?_)
   ·
    have bf : (goodE L) = false := by first | (simpa only [Bool.not_eq_true', Bool.not_eq_false'] using aP) | simpa using aP
    refine WCt rfl ?_
    refine WCs (fun e3 dn => ?_)
    refine WCg (WLq 1 [(8, .bool true)] (WLd rfl (QXn (dn _ _ ?_))))
    refine WC.ret ?_
    refine QXr ?_
    refine (hret _ _ _ rfl ?_).1
    exact ⟨rfl, bi.fr⟩
   ·
    have bf : (goodE L) = true := by first | (simpa only [Bool.not_eq_true', Bool.not_eq_false'] using aP) | simpa using aP
    refine WCf rfl (WC.skip (QXn (aA _ _ ?_)))
    refine WCs (fun e4 aB => ?_)
    refine WCg ?_
    refine WLo 25 (.pointer (some ⟨g3, 0, none⟩)) (.agg #[.int .i64 f.proto, .int .u32 f.src, .int .i64 f.sp, .int .u32 f.dst, .int .i64 f.dp]) 34 (run_ld (bi.get 0 rfl) rfl) ?_
    refine WLq 1 [(35, .slice A L.length c)] ?_
    refine WLc rfl rfl rfl rfl rfl (by kernel_rfl) (Choose_n f A L.length c L d7 (Rd.fr hr bi.fr) (by first | rfl | assumption | omega) hwf (by first | omega | (simp; done) | (simp; omega))) ?_
    rintro _ e5 ⟨rfl, dq⟩
    refine ⟨_, rfl, ?_⟩
    have dr := bi.call dq
    refine WLq 3 [(38, .bool (foundB f L)), (37, .agg #[.int .u32 ((chosenE f L).dip), .int .i64 ((chosenE f L).port), .int .i64 ((chosenE f L).weight)]), (33, .tuple #[.agg #[.int .u32 ((chosenE f L).dip), .int .i64 ((chosenE f L).port), .int .i64 ((chosenE f L).weight)], .bool (foundB f L)])] ?_
    refine WL.newM dr (fun b => .pointer (some ⟨b, 0, none⟩)) (.cells #[.int .u32 0, .int .i64 0, .int .i64 0] 49) 9 (fun _ => by kernel_rfl) (fun aO e6 d8 d9 ds => ?_)
    refine WLs (c' := #[.int .u32 ((chosenE f L).dip), .int .i64 ((chosenE f L).port), .int .i64 ((chosenE f L).weight)]) ds 1 49 aO 0 (.agg #[.int .u32 ((chosenE f L).dip), .int .i64 ((chosenE f L).port), .int .i64 ((chosenE f L).weight)]) (by kernel_rfl) rfl (by kernel_rfl) (fun e7 ea dt => ?_)
    refine WLq 1 [(10, .bool (foundB f L))] (WLd rfl (QXn (aB _ _ ?_)))
    refine WCs (fun e8 aC => ?_)
    refine WCs (fun e9 aD => ?_)
    refine WCg (WLq 2 [(40, .bool (!(foundB f L))), (39, .bool (foundB f L))] (WLd rfl (QXn (aD _ _ ?_))))
    refine WCa 40 (!(foundB f L)) rfl (fun aQ => ?_) (fun aQ => ?_)
    ·
     have bl : (foundB f L) = false := by first | (simpa only [Bool.not_eq_true', Bool.not_eq_false'] using aQ) | simpa using aQ
     refine WCt rfl ?_
     refine WCs (fun fa bW => ?_)
     refine WCg (WLq 1 [(8, .bool false)] (WLd rfl (QXn (bW _ _ ?_))))
     refine WC.ret ?_
     refine QXr ?_
     refine (hret _ _ _ rfl ?_).1
     clear hN hret hret' bW aD aC aB an aA az hK9 hK2
     exfalso
     have q_ := found_good (f := f) (L := L) bf (fun e_ => by simp [e_] at bh)
     rw [bl] at q_
     cases q_
    ·
     have bl : (foundB f L) = true := by first | (simpa only [Bool.not_eq_true', Bool.not_eq_false'] using aQ) | simpa using aQ
     refine WCf rfl (WC.skip (QXn (aC _ _ ?_)))
     refine WCs (fun fb aI => ?_)
     refine WCg (WLq 2 [(42, .int .u64 (IntKind.u64.wrap (out))), (41, .int .i64 out)] ?_)
     refine WLt (show (.int .u64 (IntKind.u64.wrap (out)) : Value) = .int .u64 (IntKind.u64.wrap out) from rfl) ?_
     refine WLq 3 [(45, .int .u64 (IntKind.u64.wrap ((L.length : Int)))), (44, .int .i64 (L.length : Int)), (43, .slice A L.length c)] ?_
     refine WLt (show (.int .u64 (IntKind.u64.wrap ((L.length : Int))) : Value) = .int .u64 (L.length : Int) from by rw [wrap_in_u64 _ (by omega) (by omega)]) ?_
     have du : ∀ w_, Sem.run Try.prog (do eqGuard .rem 64 (Operand.tmp 42) (Operand.tmp 45) (.int .u64 (IntKind.u64.wrap out)) (.int .u64 (L.length : Int)); binOp .rem 64 (.int .u64 (IntKind.u64.wrap out)) (.int .u64 (L.length : Int))) w_ = .ok (.int .u64 (Int.tmod (IntKind.u64.wrap out) (L.length : Int))) w_ := fun w_ => (run_rem (by omega))
     refine WL.sem (do eqGuard .rem 64 (Operand.tmp 42) (Operand.tmp 45) (.int .u64 (IntKind.u64.wrap out)) (.int .u64 (L.length : Int)); binOp .rem 64 (.int .u64 (IntKind.u64.wrap out)) (.int .u64 (L.length : Int))) 46 (.int .u64 (Int.tmod (IntKind.u64.wrap out) (L.length : Int))) (by kernel_rfl) (du _) ?_
     have hix_ := (idxO_eq out (n := L.length) (by omega)).2
     refine WLt (show (.int .u64 (Int.tmod (IntKind.u64.wrap out) (L.length : Int)) : Value) = .int .u64 (idxO out L.length : Int) from by rw [(idxO_eq out (n := L.length) (by omega)).1]) ?_
     refine WLq 1 [(47, .int .i64 (IntKind.i64.wrap ((idxO out L.length : Int))))] ?_
     refine WLt (show (.int .i64 (IntKind.i64.wrap ((idxO out L.length : Int))) : Value) = .int .i64 (idxO out L.length : Int) from by rw [wrap_in_i64 _ (by omega) (by omega)]) ?_
     refine WLq 1 [(11, .int .i64 (idxO out L.length : Int))] (WLd rfl (QXn (aI _ _ ?_)))
     refine WCs (fun fc aJ => ?_)
     refine WC.drawC dt [] (by kernel_rfl) (fun dv eb dw aE => ?_)
     refine WDq (NPt hN) 1 49 (.slice A L.length c) aE ?_
     refine WDq (NPt hN) 2 50 (.int .i64 (idxO out L.length : Int)) aE ?_
     have bX : (idxO out L.length) ≤ c := by omega
     refine WD.slc (NPt hN) 3 26 49 3 A A L.length c 0 (idxO out L.length) (idxO out L.length) c none (some (.int .i64 (idxO out L.length : Int))) 51 (by kernel_rfl) (by kernel_rfl) (by kernel_rfl) bnd.no (bnd.yes (by omega)) (by omega) bX (slcAt_pre _ _ _) (by first | rfl | omega) (by first | rfl | omega) aE ?_
     have bY := Rd.slc hr 0 (idxO out L.length) c bX (slcAt_pre _ _ _)
     refine WDq (NPt hN) 5 53 (.slice A L.length c) aE ?_
     refine WDq (NPt hN) 6 54 (.int .i64 (idxO out L.length : Int)) aE ?_
     refine WDq (NPt hN) 7 55 (.int .i64 (IntKind.i64.wrap ((idxO out L.length : Int) + 1))) aE ?_
     refine WD.recast (show (.int .i64 (IntKind.i64.wrap ((idxO out L.length : Int) + 1)) : Value) = .int .i64 ((idxO out L.length : Int) + 1) from by rw [wrap_in_i64 ((idxO out L.length : Int) + 1) (by omega) (by omega)]) ?_
     obtain ⟨dx, bZ⟩ : ∃ A_, slcAt A ((idxO out L.length) + 1) c 3 = A_ := ⟨_, rfl⟩
     have b0 : L.length ≤ c := by omega
     refine WD.slc (NPt hN) 8 26 49 3 A dx L.length c ((idxO out L.length) + 1) L.length (L.length - ((idxO out L.length) + 1)) (c - ((idxO out L.length) + 1)) (some (.int .i64 ((idxO out L.length : Int) + 1))) none 56 (by kernel_rfl) (by kernel_rfl) (by kernel_rfl) (bnd.yes (by omega)) bnd.no (by omega) b0 bZ (by first | rfl | omega) (by first | rfl | omega) aE ?_
     have b1 := Rd.slc hr ((idxO out L.length) + 1) L.length c b0 bZ
     refine WD.new 0 (fun b => .slice (some ⟨b, 0, none⟩) 0 0) (.cells #[] 49) (by kernel_rfl) rfl rfl rfl rfl rfl (fun _ => by kernel_rfl) (fun dc ec dy ed b2 dz => ?_)
     have b3 := dw.callB b2 dy dz
     have bN := aE.trans b2 (by simp)
     refine ⟨bN, ?_⟩
     have dA : World.ownsRow ec 0 49 3 (.slice (some ⟨dc, 0, none⟩) 0 0) 0 [] := own_of_blk (Nat.zero_le _) (b3.get 2 rfl) (Nat.le_refl _) (Nat.zero_le _) (by simp) rfl
     have b5 := b3.toF 2 rfl
     obtain ⟨fd, fe, dB, dC, dD, b6, dE, bO⟩ := app_run Try.prog b5 0 (v := .slice (some ⟨dc, 0, none⟩) 0 0) rfl 26 26 49 3 24 0 (idxO out L.length) c A rfl dA (((L.take (idxO out L.length)).drop 0).flatMap cellsE) (flat_len_n cellsE_len (by first | rfl | assumption | (simp; done) | (simp; omega))) (Rd.src_n (Rd.fr bY b5.fr) cellsE_len (by decide) (by first | rfl | assumption | (simp; done) | (simp; omega))) (flat_one cellsE_one _) (by simp only [maxLen]; omega) (by omega)
     have b7 := own_app (enc := cellsE) (ys := []) (zs := (L.take (idxO out L.length)).drop 0) dC
     obtain ⟨dd, de, rfl, dR⟩ := own_form b7
     have bm : ∀ x_ ∈ blk (.slice (some ⟨dc, 0, none⟩) 0 0), dv.heap.size ≤ x_ := by first | (simp [blk, Value.ownBlock, *]; done) | (intro x_ hx_; simp [blk, Value.ownBlock] at hx_; omega)
     have bn : ∀ x_ ∈ blk (.slice dd (0 + (idxO out L.length)) de), dv.heap.size ≤ x_ := fun x_ hx_ => (bO x_ hx_).elim (bm x_) (fun h_ => Nat.le_trans bN.size h_)
     have bP := bN.trans dD (fun x_ hx_ => .inr (bm x_ hx_))
     refine WD.sem 4 (Builtin.append_ #[26, 26] 26 #[.slice (some ⟨dc, 0, none⟩) 0 0, .slice A (idxO out L.length) c]) 52 (.slice dd (0 + (idxO out L.length)) de) (by kernel_rfl) (by kernel_rfl) dB bP ?_
     obtain ⟨ff, dS, dF, dG, dH, b9, dI, bj⟩ := app_run Try.prog b6 0 (v := .slice dd (0 + (idxO out L.length)) de) rfl 26 26 49 3 24 (0 + (idxO out L.length)) (L.length - ((idxO out L.length) + 1)) (c - ((idxO out L.length) + 1)) dx rfl b7 (((L.take L.length).drop ((idxO out L.length) + 1)).flatMap cellsE) (flat_len_n cellsE_len (by first | rfl | assumption | (simp; done) | (simp; omega))) (Rd.src_n (Rd.fr b1 b6.fr) cellsE_len (by decide) (by first | rfl | assumption | (simp; done) | (simp; omega))) (flat_one cellsE_one _) (by simp only [maxLen]; omega) (by omega)
     have bo := own_app (enc := cellsE) (ys := [] ++ ((L.take (idxO out L.length)).drop 0)) (zs := (L.take L.length).drop ((idxO out L.length) + 1)) dG
     obtain ⟨ao, ap, rfl, dJ⟩ := own_form bo
     have dK : ∀ x_ ∈ blk (.slice ao (0 + (idxO out L.length) + (L.length - ((idxO out L.length) + 1))) ap), dv.heap.size ≤ x_ := fun x_ hx_ => (bj x_ hx_).elim (bn x_) (fun h_ => Nat.le_trans bP.size h_)
     have bp := bP.trans dH (fun x_ hx_ => .inr (bn x_ hx_))
     refine WD.sem 9 (Builtin.append_ #[26, 26] 26 #[.slice dd (0 + (idxO out L.length)) de, .slice dx (L.length - ((idxO out L.length) + 1)) (c - ((idxO out L.length) + 1))]) 57 (.slice ao (0 + (idxO out L.length) + (L.length - ((idxO out L.length) + 1))) ap) (by kernel_rfl) (by kernel_rfl) dF bp ?_
     refine WDq (NPt hN) 10 12 (.slice ao (0 + (idxO out L.length) + (L.length - ((idxO out L.length) + 1))) ap) bp ?_
     refine WD.done (by kernel_rfl) ?_
     refine QXn (aJ _ _ ?_)
     refine WCs (fun ee ak => ?_)
     refine WCg ?_
     refine WLo 25 (.pointer (some ⟨g3, 0, none⟩)) (.agg #[.int .i64 f.proto, .int .u32 f.src, .int .i64 f.sp, .int .u32 f.dst, .int .i64 f.dp]) 59 (run_ld (b9.get 0 rfl) rfl) ?_
     refine WLq 1 [(60, .slice ao (0 + (idxO out L.length) + (L.length - ((idxO out L.length) + 1))) ap)] ?_
     have aR : World.ownsRow dS 0 49 3 (.slice ao (0 + (idxO out L.length) + (L.length - ((idxO out L.length) + 1))) ap) (0 + (idxO out L.length) + (L.length - ((idxO out L.length) + 1))) ((L.take (idxO out L.length) ++ L.drop (idxO out L.length + 1)).flatMap cellsE) := by have q_ := bo; rw [show [] ++ ((L.take (idxO out L.length)).drop 0) ++ ((L.take L.length).drop ((idxO out L.length) + 1)) = (L.take (idxO out L.length) ++ L.drop (idxO out L.length + 1)) from by simp] at q_; exact q_
     refine WLc rfl rfl rfl rfl rfl (by kernel_rfl) (Choose_n f ao (0 + (idxO out L.length) + (L.length - ((idxO out L.length) + 1))) ap (L.take (idxO out L.length) ++ L.drop (idxO out L.length + 1)) dS (own_rd aR cellsE_len (by decide)) (own_count cellsE_len (by decide) aR) (wf_out hwf) (by first | omega | (simp; done) | (simp; omega))) ?_
     rintro _ ef ⟨rfl, bq⟩
     refine ⟨_, rfl, ?_⟩
     have ca := b9.call bq
     have cb := own_fr aR bq (by simp)
     refine WLq 3 [(63, .bool (foundB f (L.take (idxO out L.length) ++ L.drop (idxO out L.length + 1)))), (62, .agg #[.int .u32 ((chosenE f (L.take (idxO out L.length) ++ L.drop (idxO out L.length + 1))).dip), .int .i64 ((chosenE f (L.take (idxO out L.length) ++ L.drop (idxO out L.length + 1))).port), .int .i64 ((chosenE f (L.take (idxO out L.length) ++ L.drop (idxO out L.length + 1))).weight)]), (58, .tuple #[.agg #[.int .u32 ((chosenE f (L.take (idxO out L.length) ++ L.drop (idxO out L.length + 1))).dip), .int .i64 ((chosenE f (L.take (idxO out L.length) ++ L.drop (idxO out L.length + 1))).port), .int .i64 ((chosenE f (L.take (idxO out L.length) ++ L.drop (idxO out L.length + 1))).weight)], .bool (foundB f (L.take (idxO out L.length) ++ L.drop (idxO out L.length + 1)))])] ?_
     refine WL.newM ca (fun b => .pointer (some ⟨b, 0, none⟩)) (.cells #[.int .u32 0, .int .i64 0, .int .i64 0] 49) 13 (fun _ => by kernel_rfl) (fun bk eg dT cc br => ?_)
     have cd := own_fr cb cc (by simp)
     refine WLs (c' := #[.int .u32 ((chosenE f (L.take (idxO out L.length) ++ L.drop (idxO out L.length + 1))).dip), .int .i64 ((chosenE f (L.take (idxO out L.length) ++ L.drop (idxO out L.length + 1))).port), .int .i64 ((chosenE f (L.take (idxO out L.length) ++ L.drop (idxO out L.length + 1))).weight)]) br 2 49 bk 0 (.agg #[.int .u32 ((chosenE f (L.take (idxO out L.length) ++ L.drop (idxO out L.length + 1))).dip), .int .i64 ((chosenE f (L.take (idxO out L.length) ++ L.drop (idxO out L.length + 1))).port), .int .i64 ((chosenE f (L.take (idxO out L.length) ++ L.drop (idxO out L.length + 1))).weight)]) (by kernel_rfl) rfl (by kernel_rfl) (fun eh ce cf => ?_)
     have cg := own_fr cd ce (br.apartM 0 2 rfl rfl)
     refine WLq 1 [(14, .bool (foundB f (L.take (idxO out L.length) ++ L.drop (idxO out L.length + 1))))] (WLd rfl (QXn (ak _ _ ?_)))
     refine WCs (fun ei aj => ?_)
     refine WCs (fun ej ai => ?_)
     refine WC.drawC cf [] (by kernel_rfl) (fun ek ch aq ac => ?_)
     have bs := own_fr cg ch (by simp)
     refine WDq (NPt (NPt hN)) 0 64 (.slice A L.length c) ac ?_
     refine WDq (NPt (NPt hN)) 1 65 (.int .i64 (idxO out L.length : Int)) ac ?_
     obtain ⟨ad, aS⟩ := get_some (xs := L) (i := (idxO out L.length)) (by omega)
     obtain ⟨b136, o138, ci, cj⟩ := hr.at_ _ _ aS
     refine WDi (NPt (NPt hN)) 2 A L.length c 66 .i64 (idxO out L.length : Int) b136 o138 (idxO out L.length) 3 (by kernel_rfl) (by kernel_rfl) ci (by omega) (by omega) (o138 + (idxO out L.length) * 3) (by first | (simp; done) | omega) ac ?_
     refine WDm (NPt (NPt hN)) 3 49 (.pointer (some ⟨b136, o138 + (idxO out L.length) * 3, none⟩)) (.agg #[.int .u32 ad.dip, .int .i64 ad.port, .int .i64 ad.weight]) 67 (fun _ hS_ => run_rdN (l := [.int .u32 ad.dip, .int .i64 ad.port, .int .i64 ad.weight]) rfl rfl (fun j u hu => by have hq_ := Fr.cell hS_ (aq.fr.cell (cj j u hu) (by simp)) (by simp); simpa [Nat.add_assoc] using hq_)) ac ?_
     refine WDm (NPt (NPt hN)) 4 49 (.pointer (some ⟨aO, 0, none⟩)) (.agg #[.int .u32 ((chosenE f L).dip), .int .i64 ((chosenE f L).port), .int .i64 ((chosenE f L).weight)]) 68 (fun _ hS_ => run_ld (Fr.has hS_ (aq.get 1 rfl) (by simp)) rfl) ac ?_
     have ck : ∀ w_, Sem.run Try.prog (do eqGuard .neq 49 (Operand.tmp 67) (Operand.tmp 68) (.agg #[.int .u32 ad.dip, .int .i64 ad.port, .int .i64 ad.weight]) (.agg #[.int .u32 ((chosenE f L).dip), .int .i64 ((chosenE f L).port), .int .i64 ((chosenE f L).weight)]); binOp .neq 49 (.agg #[.int .u32 ad.dip, .int .i64 ad.port, .int .i64 ad.weight]) (.agg #[.int .u32 ((chosenE f L).dip), .int .i64 ((chosenE f L).port), .int .i64 ((chosenE f L).weight)])) w_ = .ok (.bool (!(ad.dip == ((chosenE f L).dip) && (ad.port == ((chosenE f L).port) && (ad.weight == ((chosenE f L).weight) && true))))) w_ := fun w_ => (run_neq_S (by kernel_rfl))
     refine WD.semP (NPt (NPt hN)) 5 (do eqGuard .neq 49 (Operand.tmp 67) (Operand.tmp 68) (.agg #[.int .u32 ad.dip, .int .i64 ad.port, .int .i64 ad.weight]) (.agg #[.int .u32 ((chosenE f L).dip), .int .i64 ((chosenE f L).port), .int .i64 ((chosenE f L).weight)]); binOp .neq 49 (.agg #[.int .u32 ad.dip, .int .i64 ad.port, .int .i64 ad.weight]) (.agg #[.int .u32 ((chosenE f L).dip), .int .i64 ((chosenE f L).port), .int .i64 ((chosenE f L).weight)])) 69 (.bool (!(ad.dip == ((chosenE f L).dip) && (ad.port == ((chosenE f L).port) && (ad.weight == ((chosenE f L).weight) && true))))) (by kernel_rfl) (by kernel_rfl) (fun _ _ => ck _) ac ?_
     refine WDq (NPt (NPt hN)) 6 70 (.bool (!(ad.dip == ((chosenE f L).dip) && (ad.port == ((chosenE f L).port) && (ad.weight == ((chosenE f L).weight) && true))))) ac ?_
     refine WDa 70 (!(ad.dip == ((chosenE f L).dip) && (ad.port == ((chosenE f L).port) && (ad.weight == ((chosenE f L).weight) && true)))) rfl (fun aF => ?_) (fun aF => ?_)
     ·
      have bQ : (ad.dip == ((chosenE f L).dip) && (ad.port == ((chosenE f L).port) && (ad.weight == ((chosenE f L).weight) && true))) = false := by first | (simpa only [Bool.not_eq_true', Bool.not_eq_false'] using aF) | simpa using aF
      refine WDq (NPt (NPt hN)) 7 71 (.bool (foundB f (L.take (idxO out L.length) ++ L.drop (idxO out L.length + 1)))) ac ?_
      refine WDq (NPt (NPt hN)) 8 72 (.bool (!(foundB f (L.take (idxO out L.length) ++ L.drop (idxO out L.length + 1))))) ac ?_
      refine WDq (NPt (NPt hN)) 9 73 (.bool (!(foundB f (L.take (idxO out L.length) ++ L.drop (idxO out L.length + 1))))) ac ?_
      refine WDa 73 (!(foundB f (L.take (idxO out L.length) ++ L.drop (idxO out L.length + 1)))) rfl (fun aG => ?_) (fun aG => ?_)
      ·
       have cl : (foundB f (L.take (idxO out L.length) ++ L.drop (idxO out L.length + 1))) = false := by first | (simpa only [Bool.not_eq_true', Bool.not_eq_false'] using aG) | simpa using aG
       refine WDq (NPt (NPt hN)) 10 74 (undef) ac ?_
       refine WDq (NPt (NPt hN)) 11 75 (undef) ac ?_
       refine WDq (NPt (NPt hN)) 12 76 (undef) ac ?_
       refine WDq (NPt (NPt hN)) 13 77 (.bool true) ac ?_
       refine WDq (NPt (NPt hN)) 14 78 (.bool true) ac ?_
       refine WD.done (by kernel_rfl) ?_
       refine QXn (ai _ _ ?_)
       refine WCt rfl ?_
       refine WCs (fun el bt => ?_)
       refine WCg (WLq 1 [(8, .bool false)] (WLd rfl (QXn (bt _ _ ?_))))
       refine WC.ret ?_
       refine QXr ?_
       refine (hret _ _ _ rfl ?_).1
       clear hN hret hret' bt ai aj ak aJ aI aD aC aB an aA az hK9 hK2
       exfalso
       have q_ := out_law (i := idxO out L.length) bl aS (endV_ne bQ)
       rw [cl] at q_
       cases q_.1
      ·
       have cl : (foundB f (L.take (idxO out L.length) ++ L.drop (idxO out L.length + 1))) = true := by first | (simpa only [Bool.not_eq_true', Bool.not_eq_false'] using aG) | simpa using aG
       refine WDm (NPt (NPt hN)) 10 49 (.pointer (some ⟨bk, 0, none⟩)) (.agg #[.int .u32 ((chosenE f (L.take (idxO out L.length) ++ L.drop (idxO out L.length + 1))).dip), .int .i64 ((chosenE f (L.take (idxO out L.length) ++ L.drop (idxO out L.length + 1))).port), .int .i64 ((chosenE f (L.take (idxO out L.length) ++ L.drop (idxO out L.length + 1))).weight)]) 74 (fun _ hS_ => run_ld (Fr.has hS_ (aq.get 2 rfl) (by simp)) rfl) ac ?_
       refine WDm (NPt (NPt hN)) 11 49 (.pointer (some ⟨aO, 0, none⟩)) (.agg #[.int .u32 ((chosenE f L).dip), .int .i64 ((chosenE f L).port), .int .i64 ((chosenE f L).weight)]) 75 (fun _ hS_ => run_ld (Fr.has hS_ (aq.get 1 rfl) (by simp)) rfl) ac ?_
       have cm : ∀ w_, Sem.run Try.prog (do eqGuard .neq 49 (Operand.tmp 74) (Operand.tmp 75) (.agg #[.int .u32 ((chosenE f (L.take (idxO out L.length) ++ L.drop (idxO out L.length + 1))).dip), .int .i64 ((chosenE f (L.take (idxO out L.length) ++ L.drop (idxO out L.length + 1))).port), .int .i64 ((chosenE f (L.take (idxO out L.length) ++ L.drop (idxO out L.length + 1))).weight)]) (.agg #[.int .u32 ((chosenE f L).dip), .int .i64 ((chosenE f L).port), .int .i64 ((chosenE f L).weight)]); binOp .neq 49 (.agg #[.int .u32 ((chosenE f (L.take (idxO out L.length) ++ L.drop (idxO out L.length + 1))).dip), .int .i64 ((chosenE f (L.take (idxO out L.length) ++ L.drop (idxO out L.length + 1))).port), .int .i64 ((chosenE f (L.take (idxO out L.length) ++ L.drop (idxO out L.length + 1))).weight)]) (.agg #[.int .u32 ((chosenE f L).dip), .int .i64 ((chosenE f L).port), .int .i64 ((chosenE f L).weight)])) w_ = .ok (.bool (!(((chosenE f (L.take (idxO out L.length) ++ L.drop (idxO out L.length + 1))).dip) == ((chosenE f L).dip) && (((chosenE f (L.take (idxO out L.length) ++ L.drop (idxO out L.length + 1))).port) == ((chosenE f L).port) && (((chosenE f (L.take (idxO out L.length) ++ L.drop (idxO out L.length + 1))).weight) == ((chosenE f L).weight) && true))))) w_ := fun w_ => (run_neq_S (by kernel_rfl))
       refine WD.semP (NPt (NPt hN)) 12 (do eqGuard .neq 49 (Operand.tmp 74) (Operand.tmp 75) (.agg #[.int .u32 ((chosenE f (L.take (idxO out L.length) ++ L.drop (idxO out L.length + 1))).dip), .int .i64 ((chosenE f (L.take (idxO out L.length) ++ L.drop (idxO out L.length + 1))).port), .int .i64 ((chosenE f (L.take (idxO out L.length) ++ L.drop (idxO out L.length + 1))).weight)]) (.agg #[.int .u32 ((chosenE f L).dip), .int .i64 ((chosenE f L).port), .int .i64 ((chosenE f L).weight)]); binOp .neq 49 (.agg #[.int .u32 ((chosenE f (L.take (idxO out L.length) ++ L.drop (idxO out L.length + 1))).dip), .int .i64 ((chosenE f (L.take (idxO out L.length) ++ L.drop (idxO out L.length + 1))).port), .int .i64 ((chosenE f (L.take (idxO out L.length) ++ L.drop (idxO out L.length + 1))).weight)]) (.agg #[.int .u32 ((chosenE f L).dip), .int .i64 ((chosenE f L).port), .int .i64 ((chosenE f L).weight)])) 76 (.bool (!(((chosenE f (L.take (idxO out L.length) ++ L.drop (idxO out L.length + 1))).dip) == ((chosenE f L).dip) && (((chosenE f (L.take (idxO out L.length) ++ L.drop (idxO out L.length + 1))).port) == ((chosenE f L).port) && (((chosenE f (L.take (idxO out L.length) ++ L.drop (idxO out L.length + 1))).weight) == ((chosenE f L).weight) && true))))) (by kernel_rfl) (by kernel_rfl) (fun _ _ => cm _) ac ?_
       refine WDq (NPt (NPt hN)) 13 77 (.bool (!(((chosenE f (L.take (idxO out L.length) ++ L.drop (idxO out L.length + 1))).dip) == ((chosenE f L).dip) && (((chosenE f (L.take (idxO out L.length) ++ L.drop (idxO out L.length + 1))).port) == ((chosenE f L).port) && (((chosenE f (L.take (idxO out L.length) ++ L.drop (idxO out L.length + 1))).weight) == ((chosenE f L).weight) && true))))) ac ?_
       refine WDq (NPt (NPt hN)) 14 78 (.bool (!(((chosenE f (L.take (idxO out L.length) ++ L.drop (idxO out L.length + 1))).dip) == ((chosenE f L).dip) && (((chosenE f (L.take (idxO out L.length) ++ L.drop (idxO out L.length + 1))).port) == ((chosenE f L).port) && (((chosenE f (L.take (idxO out L.length) ++ L.drop (idxO out L.length + 1))).weight) == ((chosenE f L).weight) && true))))) ac ?_
       refine WD.done (by kernel_rfl) ?_
       refine QXn (ai _ _ ?_)
       refine WCa 78 (!(((chosenE f (L.take (idxO out L.length) ++ L.drop (idxO out L.length + 1))).dip) == ((chosenE f L).dip) && (((chosenE f (L.take (idxO out L.length) ++ L.drop (idxO out L.length + 1))).port) == ((chosenE f L).port) && (((chosenE f (L.take (idxO out L.length) ++ L.drop (idxO out L.length + 1))).weight) == ((chosenE f L).weight) && true)))) rfl (fun aH => ?_) (fun aH => ?_)
       ·
        have bR : (((chosenE f (L.take (idxO out L.length) ++ L.drop (idxO out L.length + 1))).dip) == ((chosenE f L).dip) && (((chosenE f (L.take (idxO out L.length) ++ L.drop (idxO out L.length + 1))).port) == ((chosenE f L).port) && (((chosenE f (L.take (idxO out L.length) ++ L.drop (idxO out L.length + 1))).weight) == ((chosenE f L).weight) && true))) = false := by first | (simpa only [Bool.not_eq_true', Bool.not_eq_false'] using aH) | simpa using aH
        refine WCt rfl ?_
        refine WCs (fun em bu => ?_)
        refine WCg (WLq 1 [(8, .bool false)] (WLd rfl (QXn (bu _ _ ?_))))
        refine WC.ret ?_
        refine QXr ?_
        refine (hret _ _ _ rfl ?_).1
        clear hN hret hret' bu ai aj ak aJ aI aD aC aB an aA az hK9 hK2
        exfalso
        have q_ := out_law (i := idxO out L.length) bl aS (endV_ne bQ)
        rw [q_.2, endV_beq, decide_eq_true rfl] at bR
        cases bR
       ·
        have bR : (((chosenE f (L.take (idxO out L.length) ++ L.drop (idxO out L.length + 1))).dip) == ((chosenE f L).dip) && (((chosenE f (L.take (idxO out L.length) ++ L.drop (idxO out L.length + 1))).port) == ((chosenE f L).port) && (((chosenE f (L.take (idxO out L.length) ++ L.drop (idxO out L.length + 1))).weight) == ((chosenE f L).weight) && true))) = true := by first | (simpa only [Bool.not_eq_true', Bool.not_eq_false'] using aH) | simpa using aH
        refine WCf rfl (WC.skip (QXn (aj _ _ ?_)))
        refine WCs (fun en aT => ?_)
        refine WCg ?_
        refine WL.newM aq (fun b => .slice (some ⟨b, 0, none⟩) 0 0) (.cells #[] 49) 79 (fun _ => by kernel_rfl) (fun bS dL dU cn bv => ?_)
        have co := own_fr bs cn (by simp)
        refine WLq 1 [(80, .slice A L.length c)] ?_
        have cp : World.ownsRow dL 0 49 3 (.slice (some ⟨bS, 0, none⟩) 0 0) 0 [] := own_of_blk (Nat.zero_le _) (bv.get 3 rfl) (Nat.le_refl _) (Nat.zero_le _) (by simp) rfl
        have aU := bv.toF 3 rfl
        obtain ⟨eo, ep, cq, cr, cs, ct, df, dg⟩ := app_run Try.prog aU 1 (v := .slice (some ⟨bS, 0, none⟩) 0 0) rfl 26 26 49 3 24 0 L.length c A rfl cp (L.flatMap cellsE) (flat_len_n cellsE_len (by first | rfl | assumption | (simp; done) | (simp; omega))) (Rd.src_n (Rd.fr hr aU.fr) cellsE_len (by decide) (by first | rfl | assumption | (simp; done) | (simp; omega))) (flat_one cellsE_one _) (by simp only [maxLen]; omega) (by omega)
        have bw := own_app (enc := cellsE) (ys := []) (zs := L) cr
        obtain ⟨ae, af, rfl, dM⟩ := own_form bw
        refine WL.sem (Builtin.append_ #[26, 26] 26 #[.slice (some ⟨bS, 0, none⟩) 0 0, .slice A L.length c]) 81 (.slice ae (0 + L.length) af) (by kernel_rfl) cq ?_
        have cu := own_fr co cs (aU.disj 0 1 rfl rfl (by decide))
        refine WLq 1 [(15, .slice ae (0 + L.length) af)] (WLd rfl (QXn (aT _ _ ?_)))
        refine WCs (fun er aV => ?_)
        refine WCs (fun es aW => ?_)
        refine WCg (WLq 3 [(84, .int .i64 0), (83, .int .i64 (0 + L.length : Int)), (82, .slice ae (0 + L.length) af)] (WLd rfl (QXn (aW _ _ ?_))))
        refine WC.block ?_
        refine WC.loop (fun m_ E_ w_ => ∃ (j : Nat), m_ = L.length - j ∧ E_ = [(1, .slice A L.length c), (2, .int .i64 out), (3, .int .i64 grow), (4, .pointer (some ⟨g3, 0, none⟩)), (8, .bool false), (9, .pointer (some ⟨aO, 0, none⟩)), (10, .bool (foundB f L)), (15, .slice ae (0 + L.length) af), (83, .int .i64 (0 + L.length : Int)), (84, .int .i64 (j : Int))] ∧ Cx w [] w_ [(g3, .cells #[.int .i64 f.proto, .int .u32 f.src, .int .i64 f.sp, .int .u32 f.dst, .int .i64 f.dp] 25), (aO, .cells #[.int .u32 ((chosenE f L).dip), .int .i64 ((chosenE f L).port), .int .i64 ((chosenE f L).weight)] 49), (bk, .cells #[.int .u32 ((chosenE f (L.take (idxO out L.length) ++ L.drop (idxO out L.length + 1))).dip), .int .i64 ((chosenE f (L.take (idxO out L.length) ++ L.drop (idxO out L.length + 1))).port), .int .i64 ((chosenE f (L.take (idxO out L.length) ++ L.drop (idxO out L.length + 1))).weight)] 49)] [blk (.slice ao (0 + (idxO out L.length) + (L.length - ((idxO out L.length) + 1))) ap), blk (.slice ae (0 + L.length) af)] ∧ World.ownsRow w_ 0 49 3 (.slice ao (0 + (idxO out L.length) + (L.length - ((idxO out L.length) + 1))) ap) (0 + (idxO out L.length) + (L.length - ((idxO out L.length) + 1))) ((L.take (idxO out L.length) ++ L.drop (idxO out L.length + 1)).flatMap cellsE) ∧ World.ownsRow w_ 0 49 3 (.slice ae (0 + L.length) af) (0 + L.length) ((growL (chosenE f L) (gmod grow) L j).flatMap cellsE) ∧ (j ≤ L.length)) ⟨_, _, ⟨0, rfl, rfl, ct, cu, (by rw [growL_0]; exact bw), Nat.zero_le _⟩, sub_of ⟨rfl, rfl, rfl, rfl, rfl, rfl, rfl, rfl, rfl, rfl, trivial⟩⟩ (fun m180 E_ cv et bx cw => ?_)
        obtain ⟨j, rfl, rfl, aX, row77_m180, hmore, hj⟩ := cw
        have hgl_ := growL_len (chosenE f L) (gmod grow) L j
        refine WCs (fun eu aY => ?_)
        refine WCg (WLq 1 [(85, .bool (decide ((j : Int) < (0 + L.length : Int))))] (WLd rfl (QXn (aY _ _ ?_))))
        refine WCs (fun ev aZ => ?_)
        refine WCa 85 (decide ((j : Int) < (0 + L.length : Int))) rfl (fun a0 => ?_) (fun a0 => ?_)
        ·
         have dN : (j : Int) < (0 + L.length : Int) := by have q_ := of_decide_eq_true a0; omega
         refine WCt rfl ?_
         refine WC.skip ?_
         refine QXn (aZ _ _ ?_)
         refine WCs (fun ew bz => ?_)
         refine WC.block ?_
         refine WCs (fun ex cx => ?_)
         refine WCg (WLq 2 [(16, .int .i64 (j : Int)), (86, .int .i64 (j : Int))] (WLd rfl (QXn (cx _ _ ?_))))
         refine WCs (fun ey cy => ?_)
         refine WC.drawC aX [] (by kernel_rfl) (fun ez bA aK ar => ?_)
         have bB := own_fr row77_m180 bA (by simp)
         have au := own_fr hmore bA (by simp)
         refine WDq (NPt (NPb (NPt (NPt (NPb (NPt hN)))))) 0 87 (.slice ae (0 + L.length) af) ar ?_
         refine WDq (NPt (NPb (NPt (NPt (NPb (NPt hN)))))) 1 88 (.int .i64 (j : Int)) ar ?_
         have dV := own_count cellsE_len (by decide) au
         obtain ⟨aa, al⟩ := get_some (xs := (growL (chosenE f L) (gmod grow) L j)) (i := j) (by omega)
         obtain ⟨b202, av⟩ := own_addr (by decide) cellsE_len au al
         refine WDi (NPt (NPb (NPt (NPt (NPb (NPt hN)))))) 2 ae (0 + L.length) af 89 .i64 (j : Int) b202 0 j 3 (by kernel_rfl) (by kernel_rfl) av (by omega) (by omega) (j * 3) (by first | (simp; done) | omega) ar ?_
         refine WDm (NPt (NPb (NPt (NPt (NPb (NPt hN)))))) 3 49 (.pointer (some ⟨b202, j * 3, none⟩)) (.agg #[.int .u32 aa.dip, .int .i64 aa.port, .int .i64 aa.weight]) 90 (fun _ hS_ => run_rdN (l := [.int .u32 aa.dip, .int .i64 aa.port, .int .i64 aa.weight]) rfl rfl (fun j u hu => by have hq_ := Rd.cell (own_rd (own_fr au hS_ (by simp)) cellsE_len (by decide)) av al j u hu; simpa [Nat.add_assoc] using hq_)) ar ?_
         refine WDm (NPt (NPb (NPt (NPt (NPb (NPt hN)))))) 4 49 (.pointer (some ⟨aO, 0, none⟩)) (.agg #[.int .u32 ((chosenE f L).dip), .int .i64 ((chosenE f L).port), .int .i64 ((chosenE f L).weight)]) 91 (fun _ hS_ => run_ld (Fr.has hS_ (aK.get 1 rfl) (by simp)) rfl) ar ?_
         have cz : ∀ w_, Sem.run Try.prog (do eqGuard .eql 49 (Operand.tmp 90) (Operand.tmp 91) (.agg #[.int .u32 aa.dip, .int .i64 aa.port, .int .i64 aa.weight]) (.agg #[.int .u32 ((chosenE f L).dip), .int .i64 ((chosenE f L).port), .int .i64 ((chosenE f L).weight)]); binOp .eql 49 (.agg #[.int .u32 aa.dip, .int .i64 aa.port, .int .i64 aa.weight]) (.agg #[.int .u32 ((chosenE f L).dip), .int .i64 ((chosenE f L).port), .int .i64 ((chosenE f L).weight)])) w_ = .ok (.bool (aa.dip == ((chosenE f L).dip) && (aa.port == ((chosenE f L).port) && (aa.weight == ((chosenE f L).weight) && true)))) w_ := fun w_ => (run_eql_S (by kernel_rfl))
         refine WD.semP (NPt (NPb (NPt (NPt (NPb (NPt hN)))))) 5 (do eqGuard .eql 49 (Operand.tmp 90) (Operand.tmp 91) (.agg #[.int .u32 aa.dip, .int .i64 aa.port, .int .i64 aa.weight]) (.agg #[.int .u32 ((chosenE f L).dip), .int .i64 ((chosenE f L).port), .int .i64 ((chosenE f L).weight)]); binOp .eql 49 (.agg #[.int .u32 aa.dip, .int .i64 aa.port, .int .i64 aa.weight]) (.agg #[.int .u32 ((chosenE f L).dip), .int .i64 ((chosenE f L).port), .int .i64 ((chosenE f L).weight)])) 92 (.bool (aa.dip == ((chosenE f L).dip) && (aa.port == ((chosenE f L).port) && (aa.weight == ((chosenE f L).weight) && true)))) (by kernel_rfl) (by kernel_rfl) (fun _ _ => cz _) ar ?_
         refine WD.done (by kernel_rfl) ?_
         refine QXn (cy _ _ ?_)
         refine WCa 92 ((aa.dip == ((chosenE f L).dip) && (aa.port == ((chosenE f L).port) && (aa.weight == ((chosenE f L).weight) && true)))) rfl (fun a1 => ?_) (fun a1 => ?_)
         ·
          refine WCt rfl ?_
          refine WCg (WLq 4 [(96, .int .i64 (j : Int)), (95, .slice ae (0 + L.length) af), (94, .int .i64 (j : Int)), (93, .slice ae (0 + L.length) af)] ?_)
          refine WLi ae (0 + L.length) af 97 .i64 (j : Int) b202 0 j 3 (by kernel_rfl) av (by omega) (by omega) (j * 3) (by first | (simp; done) | omega) ?_
          refine WLq 1 [(98, .pointer (some ⟨b202, j * 3 + 2, none⟩))] ?_
          refine WLo 3 (.pointer (some ⟨b202, j * 3 + 2, none⟩)) (.int .i64 aa.weight) 99 (run_load1 rfl (by simpa [Nat.add_assoc] using Rd.cell (own_rd au cellsE_len (by decide)) av al 2 _ rfl)) ?_
          refine WLq 2 [(101, .int .u64 (IntKind.u64.wrap (grow))), (100, .int .i64 grow)] ?_
          refine WLt (show (.int .u64 (IntKind.u64.wrap (grow)) : Value) = .int .u64 (IntKind.u64.wrap grow) from rfl) ?_
          refine WLq 1 [(102, .int .u64 (Int.tmod (IntKind.u64.wrap grow) 16))] ?_
          refine WLt (show (.int .u64 (Int.tmod (IntKind.u64.wrap grow) 16) : Value) = .int .u64 (gmod grow) from rfl) ?_
          refine WLq 1 [(103, .int .i64 (IntKind.i64.wrap (gmod grow)))] ?_
          refine WLt (show (.int .i64 (IntKind.i64.wrap (gmod grow)) : Value) = .int .i64 (gmod grow) from by rw [wrap_in_i64 _ (by omega) (by omega)]) ?_
          have hwe_ := good_w (good_in bf (List.mem_of_getElem? (growL_get al)))
          refine WLq 1 [(104, .int .i64 (IntKind.i64.wrap (aa.weight + (gmod grow))))] ?_
          refine WLt (show (.int .i64 (IntKind.i64.wrap (aa.weight + (gmod grow))) : Value) = .int .i64 (aa.weight + (gmod grow)) from by rw [wrap_in_i64 (aa.weight + (gmod grow)) (by omega) (by omega)]) ?_
          have cA : ∀ w_, Sem.run Try.prog (Builtin.min_ #[3, 3] 3 #[.int .i64 16, .int .i64 (aa.weight + (gmod grow))]) w_ = .ok (.int .i64 (min (16 : Int) (aa.weight + (gmod grow)))) w_ := fun w_ => run_minI
          refine WL.sem (Builtin.min_ #[3, 3] 3 #[.int .i64 16, .int .i64 (aa.weight + (gmod grow))]) 105 (.int .i64 (min (16 : Int) (aa.weight + (gmod grow)))) (by kernel_rfl) (cA _) ?_
          refine WLi ae (0 + L.length) af 106 .i64 (j : Int) b202 0 j 3 (by kernel_rfl) av (by omega) (by omega) (j * 3) (by first | (simp; done) | omega) ?_
          refine WLq 1 [(107, .pointer (some ⟨b202, j * 3 + 2, none⟩))] ?_
          obtain ⟨eA, cB, cC, cD, cE⟩ := stoE_run Try.prog cellsE_len aK 1 av rfl au j 2 (x := aa) al (⟨aa.dip, aa.port, min (16 : Int) (aa.weight + (gmod grow))⟩ : EndV) [.int .i64 (min (16 : Int) (aa.weight + (gmod grow)))] rfl 3 (.int .i64 (min (16 : Int) (aa.weight + (gmod grow)))) (j * 3 + 2) rfl rfl rfl (by first | rfl | simp [Nat.add_assoc])
          refine WL.semU (Instr.storeAt 3 (.pointer (some ⟨b202, j * 3 + 2, none⟩)) (.int .i64 (min (16 : Int) (aa.weight + (gmod grow))))) (by kernel_rfl) cB ?_
          have cF := own_fr bB cC (aK.disj 0 1 rfl rfl (by decide))
          refine WLd rfl ?_
          refine QXb ?_
          refine QXn (bz _ _ ?_)
          refine WCg (WLq 1 [(108, .int .i64 (IntKind.i64.wrap ((j : Int) + 1)))] ?_)
          refine WLt (show (.int .i64 (IntKind.i64.wrap ((j : Int) + 1)) : Value) = .int .i64 ((j : Int) + 1) from by rw [wrap_in_i64 ((j : Int) + 1) (by omega) (by omega)]) ?_
          refine WLq 1 [(84, .int .i64 ((j : Int) + 1))] ?_
          refine WLd rfl ?_
          refine QXn ?_
          have cG := cE.pick [0, 1, 2] [0, 1] rfl rfl
          refine fun a_ ha_ => bx _ _ _ ?_ ⟨j + 1, rfl, rfl, cG, cF, (by rw [← growL_hit al (endV_eq (a1))]; exact cD), by omega⟩ a_ (ha_.weaken (sub_of ⟨rfl, rfl, rfl, rfl, rfl, rfl, rfl, rfl, rfl, rfl, trivial⟩))
          omega
         ·
          refine WCf rfl (WC.skip ?_)
          refine QXb ?_
          refine QXn (bz _ _ ?_)
          refine WCg (WLq 1 [(108, .int .i64 (IntKind.i64.wrap ((j : Int) + 1)))] ?_)
          refine WLt (show (.int .i64 (IntKind.i64.wrap ((j : Int) + 1)) : Value) = .int .i64 ((j : Int) + 1) from by rw [wrap_in_i64 ((j : Int) + 1) (by omega) (by omega)]) ?_
          refine WLq 1 [(84, .int .i64 ((j : Int) + 1))] ?_
          refine WLd rfl ?_
          refine QXn ?_
          have cH := aK.pick [0, 1, 2] [0, 1] rfl rfl
          refine fun a_ ha_ => bx _ _ _ ?_ ⟨j + 1, rfl, rfl, cH, bB, (by rw [← growL_miss al (endV_ne a1)]; exact au), by omega⟩ a_ (ha_.weaken (sub_of ⟨rfl, rfl, rfl, rfl, rfl, rfl, rfl, rfl, rfl, rfl, trivial⟩))
          omega
        ·
         have dN : (0 + L.length : Int) ≤ (j : Int) := by have q_ := of_decide_eq_false a0; omega
         refine WCf rfl ?_
         refine WC.exit ?_
         refine QXe ?_
         refine QXe ?_
         refine QX.block_hit ?_
         refine QXn (aV _ _ ?_)
         refine WCs (fun eB a2 => ?_)
         refine WCg ?_
         refine WLo 25 (.pointer (some ⟨g3, 0, none⟩)) (.agg #[.int .i64 f.proto, .int .u32 f.src, .int .i64 f.sp, .int .u32 f.dst, .int .i64 f.dp]) 110 (run_ld (aX.get 0 rfl) rfl) ?_
         refine WLq 1 [(111, .slice ae (0 + L.length) af)] ?_
         have bC : World.ownsRow cv 0 49 3 (.slice ae (0 + L.length) af) (0 + L.length) ((L.map (grE (chosenE f L) (gmod grow))).flatMap cellsE) := by have q_ := hmore; rw [growL_end (by omega)] at q_; exact q_
         refine WLc rfl rfl rfl rfl rfl (by kernel_rfl) (Choose_n f ae (0 + L.length) af (L.map (grE (chosenE f L) (gmod grow))) cv (own_rd bC cellsE_len (by decide)) (own_count cellsE_len (by decide) bC) (wf_gr hwf bf (gmod_b grow).1) (by first | omega | (simp; done) | (simp; omega))) ?_
         rintro _ eC ⟨rfl, cI⟩
         refine ⟨_, rfl, ?_⟩
         have cJ := aX.call cI
         refine WLq 3 [(114, .bool (foundB f (L.map (grE (chosenE f L) (gmod grow))))), (113, .agg #[.int .u32 ((chosenE f (L.map (grE (chosenE f L) (gmod grow)))).dip), .int .i64 ((chosenE f (L.map (grE (chosenE f L) (gmod grow)))).port), .int .i64 ((chosenE f (L.map (grE (chosenE f L) (gmod grow)))).weight)]), (109, .tuple #[.agg #[.int .u32 ((chosenE f (L.map (grE (chosenE f L) (gmod grow)))).dip), .int .i64 ((chosenE f (L.map (grE (chosenE f L) (gmod grow)))).port), .int .i64 ((chosenE f (L.map (grE (chosenE f L) (gmod grow)))).weight)], .bool (foundB f (L.map (grE (chosenE f L) (gmod grow))))])] ?_
         refine WL.newM cJ (fun b => .pointer (some ⟨b, 0, none⟩)) (.cells #[.int .u32 0, .int .i64 0, .int .i64 0] 49) 17 (fun _ => by kernel_rfl) (fun bT eD dW dX cK => ?_)
         refine WLs (c' := #[.int .u32 ((chosenE f (L.map (grE (chosenE f L) (gmod grow)))).dip), .int .i64 ((chosenE f (L.map (grE (chosenE f L) (gmod grow)))).port), .int .i64 ((chosenE f (L.map (grE (chosenE f L) (gmod grow)))).weight)]) cK 3 49 bT 0 (.agg #[.int .u32 ((chosenE f (L.map (grE (chosenE f L) (gmod grow)))).dip), .int .i64 ((chosenE f (L.map (grE (chosenE f L) (gmod grow)))).port), .int .i64 ((chosenE f (L.map (grE (chosenE f L) (gmod grow)))).weight)]) (by kernel_rfl) rfl (by kernel_rfl) (fun eE dY a3 => ?_)
         refine WLq 1 [(10, .bool (foundB f (L.map (grE (chosenE f L) (gmod grow)))))] (WLd rfl (QXn (a2 _ _ ?_)))
         refine WCs (fun eF aL => ?_)
         refine WCg (WLq 2 [(116, .bool (foundB f (L.map (grE (chosenE f L) (gmod grow))))), (115, .bool (foundB f (L.map (grE (chosenE f L) (gmod grow)))))] ?_)
         refine WLa 116 (foundB f (L.map (grE (chosenE f L) (gmod grow)))) rfl (fun bD => ?_) (fun bD => ?_)
         ·
          refine WLq 1 [(117, .pointer (some ⟨bT, 0, none⟩))] ?_
          refine WLo 23 (.pointer (some ⟨bT, 0, none⟩)) (.int .u32 ((chosenE f (L.map (grE (chosenE f L) (gmod grow)))).dip)) 118 (run_ld (a3.get 3 rfl) rfl) ?_
          refine WLq 1 [(119, .pointer (some ⟨aO, 0, none⟩))] ?_
          refine WLo 23 (.pointer (some ⟨aO, 0, none⟩)) (.int .u32 ((chosenE f L).dip)) 120 (run_ld (a3.get 1 rfl) rfl) ?_
          refine WLq 3 [(8, .bool (((chosenE f (L.map (grE (chosenE f L) (gmod grow)))).dip) == ((chosenE f L).dip))), (122, .bool (((chosenE f (L.map (grE (chosenE f L) (gmod grow)))).dip) == ((chosenE f L).dip))), (121, .bool (((chosenE f (L.map (grE (chosenE f L) (gmod grow)))).dip) == ((chosenE f L).dip)))] (WLd rfl (QXn (aL _ _ ?_)))
          refine WC.ret ?_
          refine (hret _ _ _ rfl ?_).1
          clear hN hret hret' aL a2 aZ aY aW aV aT ai aj ak aJ aI aD aC aB an aA az hK9 hK2
          have q_ := grow_law (g := gmod grow) bf bl (gmod_b grow).1
          exact ⟨by show Ending.returned (Value.bool (_ == _)) = _; rw [q_.2, beq_self_eq_true], a3.fr⟩
         ·
          refine WLq 7 [(8, .bool false), (122, .bool false), (121, undef), (120, undef), (119, undef), (118, undef), (117, undef)] (WLd rfl (QXn (aL _ _ ?_)))
          refine WC.ret ?_
          refine (hret _ _ _ rfl ?_).1
          clear hN hret hret' aL a2 aZ aY aW aV aT ai aj ak aJ aI aD aC aB an aA az hK9 hK2
          have q_ := grow_law (g := gmod grow) bf bl (gmod_b grow).1
          rw [bD] at q_
          cases q_.1
     ·
      have bQ : (ad.dip == ((chosenE f L).dip) && (ad.port == ((chosenE f L).port) && (ad.weight == ((chosenE f L).weight) && true))) = true := by first | (simpa only [Bool.not_eq_true', Bool.not_eq_false'] using aF) | simpa using aF
      refine WDq (NPt (NPt hN)) 7 71 (undef) ac ?_
      refine WDq (NPt (NPt hN)) 8 72 (undef) ac ?_
      refine WDq (NPt (NPt hN)) 9 73 (undef) ac ?_
      refine WDq (NPt (NPt hN)) 10 74 (undef) ac ?_
      refine WDq (NPt (NPt hN)) 11 75 (undef) ac ?_
      refine WDq (NPt (NPt hN)) 12 76 (undef) ac ?_
      refine WDq (NPt (NPt hN)) 13 77 (undef) ac ?_
      refine WDq (NPt (NPt hN)) 14 78 (.bool false) ac ?_
      refine WD.done (by kernel_rfl) ?_
      refine QXn (ai _ _ ?_)
      refine WCf rfl (WC.skip (QXn (aj _ _ ?_)))
      refine WCs (fun eG a4 => ?_)
      refine WCg ?_
      refine WL.newM aq (fun b => .slice (some ⟨b, 0, none⟩) 0 0) (.cells #[] 49) 79 (fun _ => by kernel_rfl) (fun bU dO dZ cL bE => ?_)
      have cM := own_fr bs cL (by simp)
      refine WLq 1 [(80, .slice A L.length c)] ?_
      have cN : World.ownsRow dO 0 49 3 (.slice (some ⟨bU, 0, none⟩) 0 0) 0 [] := own_of_blk (Nat.zero_le _) (bE.get 3 rfl) (Nat.le_refl _) (Nat.zero_le _) (by simp) rfl
      have a5 := bE.toF 3 rfl
      obtain ⟨eH, eI, cO, cP, cQ, cR, dh, di⟩ := app_run Try.prog a5 1 (v := .slice (some ⟨bU, 0, none⟩) 0 0) rfl 26 26 49 3 24 0 L.length c A rfl cN (L.flatMap cellsE) (flat_len_n cellsE_len (by first | rfl | assumption | (simp; done) | (simp; omega))) (Rd.src_n (Rd.fr hr a5.fr) cellsE_len (by decide) (by first | rfl | assumption | (simp; done) | (simp; omega))) (flat_one cellsE_one _) (by simp only [maxLen]; omega) (by omega)
      have bF := own_app (enc := cellsE) (ys := []) (zs := L) cP
      obtain ⟨ag, ah, rfl, dP⟩ := own_form bF
      refine WL.sem (Builtin.append_ #[26, 26] 26 #[.slice (some ⟨bU, 0, none⟩) 0 0, .slice A L.length c]) 81 (.slice ag (0 + L.length) ah) (by kernel_rfl) cO ?_
      have cS := own_fr cM cQ (a5.disj 0 1 rfl rfl (by decide))
      refine WLq 1 [(15, .slice ag (0 + L.length) ah)] (WLd rfl (QXn (a4 _ _ ?_)))
      refine WCs (fun eJ a6 => ?_)
      refine WCs (fun eK a7 => ?_)
      refine WCg (WLq 3 [(84, .int .i64 0), (83, .int .i64 (0 + L.length : Int)), (82, .slice ag (0 + L.length) ah)] (WLd rfl (QXn (a7 _ _ ?_))))
      refine WC.block ?_
      refine WC.loop (fun m_ E_ w_ => ∃ (j : Nat), m_ = L.length - j ∧ E_ = [(1, .slice A L.length c), (2, .int .i64 out), (3, .int .i64 grow), (4, .pointer (some ⟨g3, 0, none⟩)), (8, .bool false), (9, .pointer (some ⟨aO, 0, none⟩)), (10, .bool (foundB f L)), (15, .slice ag (0 + L.length) ah), (83, .int .i64 (0 + L.length : Int)), (84, .int .i64 (j : Int))] ∧ Cx w [] w_ [(g3, .cells #[.int .i64 f.proto, .int .u32 f.src, .int .i64 f.sp, .int .u32 f.dst, .int .i64 f.dp] 25), (aO, .cells #[.int .u32 ((chosenE f L).dip), .int .i64 ((chosenE f L).port), .int .i64 ((chosenE f L).weight)] 49), (bk, .cells #[.int .u32 ((chosenE f (L.take (idxO out L.length) ++ L.drop (idxO out L.length + 1))).dip), .int .i64 ((chosenE f (L.take (idxO out L.length) ++ L.drop (idxO out L.length + 1))).port), .int .i64 ((chosenE f (L.take (idxO out L.length) ++ L.drop (idxO out L.length + 1))).weight)] 49)] [blk (.slice ao (0 + (idxO out L.length) + (L.length - ((idxO out L.length) + 1))) ap), blk (.slice ag (0 + L.length) ah)] ∧ World.ownsRow w_ 0 49 3 (.slice ao (0 + (idxO out L.length) + (L.length - ((idxO out L.length) + 1))) ap) (0 + (idxO out L.length) + (L.length - ((idxO out L.length) + 1))) ((L.take (idxO out L.length) ++ L.drop (idxO out L.length + 1)).flatMap cellsE) ∧ World.ownsRow w_ 0 49 3 (.slice ag (0 + L.length) ah) (0 + L.length) ((growL (chosenE f L) (gmod grow) L j).flatMap cellsE) ∧ (j ≤ L.length)) ⟨_, _, ⟨0, rfl, rfl, cR, cS, (by rw [growL_0]; exact bF), Nat.zero_le _⟩, sub_of ⟨rfl, rfl, rfl, rfl, rfl, rfl, rfl, rfl, rfl, rfl, trivial⟩⟩ (fun m279 E_ cT eL bG cU => ?_)
      obtain ⟨j, rfl, rfl, a8, row77_m279, hmore, hj⟩ := cU
      have hgl_ := growL_len (chosenE f L) (gmod grow) L j
      refine WCs (fun eM a9 => ?_)
      refine WCg (WLq 1 [(85, .bool (decide ((j : Int) < (0 + L.length : Int))))] (WLd rfl (QXn (a9 _ _ ?_))))
      refine WCs (fun eN ba => ?_)
      refine WCa 85 (decide ((j : Int) < (0 + L.length : Int))) rfl (fun bb => ?_) (fun bb => ?_)
      ·
       have dQ : (j : Int) < (0 + L.length : Int) := by have q_ := of_decide_eq_true bb; omega
       refine WCt rfl ?_
       refine WC.skip ?_
       refine QXn (ba _ _ ?_)
       refine WCs (fun eO bH => ?_)
       refine WC.block ?_
       refine WCs (fun eP cV => ?_)
       refine WCg (WLq 2 [(16, .int .i64 (j : Int)), (86, .int .i64 (j : Int))] (WLd rfl (QXn (cV _ _ ?_))))
       refine WCs (fun eQ cW => ?_)
       refine WC.drawC a8 [] (by kernel_rfl) (fun eR bI aM aw => ?_)
       have bJ := own_fr row77_m279 bI (by simp)
       have ax := own_fr hmore bI (by simp)
       refine WDq (NPt (NPb (NPt (NPt (NPb (NPt hN)))))) 0 87 (.slice ag (0 + L.length) ah) aw ?_
       refine WDq (NPt (NPb (NPt (NPt (NPb (NPt hN)))))) 1 88 (.int .i64 (j : Int)) aw ?_
       have d0 := own_count cellsE_len (by decide) ax
       obtain ⟨ab, am⟩ := get_some (xs := (growL (chosenE f L) (gmod grow) L j)) (i := j) (by omega)
       obtain ⟨b301, ay⟩ := own_addr (by decide) cellsE_len ax am
       refine WDi (NPt (NPb (NPt (NPt (NPb (NPt hN)))))) 2 ag (0 + L.length) ah 89 .i64 (j : Int) b301 0 j 3 (by kernel_rfl) (by kernel_rfl) ay (by omega) (by omega) (j * 3) (by first | (simp; done) | omega) aw ?_
       refine WDm (NPt (NPb (NPt (NPt (NPb (NPt hN)))))) 3 49 (.pointer (some ⟨b301, j * 3, none⟩)) (.agg #[.int .u32 ab.dip, .int .i64 ab.port, .int .i64 ab.weight]) 90 (fun _ hS_ => run_rdN (l := [.int .u32 ab.dip, .int .i64 ab.port, .int .i64 ab.weight]) rfl rfl (fun j u hu => by have hq_ := Rd.cell (own_rd (own_fr ax hS_ (by simp)) cellsE_len (by decide)) ay am j u hu; simpa [Nat.add_assoc] using hq_)) aw ?_
       refine WDm (NPt (NPb (NPt (NPt (NPb (NPt hN)))))) 4 49 (.pointer (some ⟨aO, 0, none⟩)) (.agg #[.int .u32 ((chosenE f L).dip), .int .i64 ((chosenE f L).port), .int .i64 ((chosenE f L).weight)]) 91 (fun _ hS_ => run_ld (Fr.has hS_ (aM.get 1 rfl) (by simp)) rfl) aw ?_
       have cX : ∀ w_, Sem.run Try.prog (do eqGuard .eql 49 (Operand.tmp 90) (Operand.tmp 91) (.agg #[.int .u32 ab.dip, .int .i64 ab.port, .int .i64 ab.weight]) (.agg #[.int .u32 ((chosenE f L).dip), .int .i64 ((chosenE f L).port), .int .i64 ((chosenE f L).weight)]); binOp .eql 49 (.agg #[.int .u32 ab.dip, .int .i64 ab.port, .int .i64 ab.weight]) (.agg #[.int .u32 ((chosenE f L).dip), .int .i64 ((chosenE f L).port), .int .i64 ((chosenE f L).weight)])) w_ = .ok (.bool (ab.dip == ((chosenE f L).dip) && (ab.port == ((chosenE f L).port) && (ab.weight == ((chosenE f L).weight) && true)))) w_ := fun w_ => (run_eql_S (by kernel_rfl))
       refine WD.semP (NPt (NPb (NPt (NPt (NPb (NPt hN)))))) 5 (do eqGuard .eql 49 (Operand.tmp 90) (Operand.tmp 91) (.agg #[.int .u32 ab.dip, .int .i64 ab.port, .int .i64 ab.weight]) (.agg #[.int .u32 ((chosenE f L).dip), .int .i64 ((chosenE f L).port), .int .i64 ((chosenE f L).weight)]); binOp .eql 49 (.agg #[.int .u32 ab.dip, .int .i64 ab.port, .int .i64 ab.weight]) (.agg #[.int .u32 ((chosenE f L).dip), .int .i64 ((chosenE f L).port), .int .i64 ((chosenE f L).weight)])) 92 (.bool (ab.dip == ((chosenE f L).dip) && (ab.port == ((chosenE f L).port) && (ab.weight == ((chosenE f L).weight) && true)))) (by kernel_rfl) (by kernel_rfl) (fun _ _ => cX _) aw ?_
       refine WD.done (by kernel_rfl) ?_
       refine QXn (cW _ _ ?_)
       refine WCa 92 ((ab.dip == ((chosenE f L).dip) && (ab.port == ((chosenE f L).port) && (ab.weight == ((chosenE f L).weight) && true)))) rfl (fun bc => ?_) (fun bc => ?_)
       ·
        refine WCt rfl ?_
        refine WCg (WLq 4 [(96, .int .i64 (j : Int)), (95, .slice ag (0 + L.length) ah), (94, .int .i64 (j : Int)), (93, .slice ag (0 + L.length) ah)] ?_)
        refine WLi ag (0 + L.length) ah 97 .i64 (j : Int) b301 0 j 3 (by kernel_rfl) ay (by omega) (by omega) (j * 3) (by first | (simp; done) | omega) ?_
        refine WLq 1 [(98, .pointer (some ⟨b301, j * 3 + 2, none⟩))] ?_
        refine WLo 3 (.pointer (some ⟨b301, j * 3 + 2, none⟩)) (.int .i64 ab.weight) 99 (run_load1 rfl (by simpa [Nat.add_assoc] using Rd.cell (own_rd ax cellsE_len (by decide)) ay am 2 _ rfl)) ?_
        refine WLq 2 [(101, .int .u64 (IntKind.u64.wrap (grow))), (100, .int .i64 grow)] ?_
        refine WLt (show (.int .u64 (IntKind.u64.wrap (grow)) : Value) = .int .u64 (IntKind.u64.wrap grow) from rfl) ?_
        refine WLq 1 [(102, .int .u64 (Int.tmod (IntKind.u64.wrap grow) 16))] ?_
        refine WLt (show (.int .u64 (Int.tmod (IntKind.u64.wrap grow) 16) : Value) = .int .u64 (gmod grow) from rfl) ?_
        refine WLq 1 [(103, .int .i64 (IntKind.i64.wrap (gmod grow)))] ?_
        refine WLt (show (.int .i64 (IntKind.i64.wrap (gmod grow)) : Value) = .int .i64 (gmod grow) from by rw [wrap_in_i64 _ (by omega) (by omega)]) ?_
        have hwe_ := good_w (good_in bf (List.mem_of_getElem? (growL_get am)))
        refine WLq 1 [(104, .int .i64 (IntKind.i64.wrap (ab.weight + (gmod grow))))] ?_
        refine WLt (show (.int .i64 (IntKind.i64.wrap (ab.weight + (gmod grow))) : Value) = .int .i64 (ab.weight + (gmod grow)) from by rw [wrap_in_i64 (ab.weight + (gmod grow)) (by omega) (by omega)]) ?_
        have cY : ∀ w_, Sem.run Try.prog (Builtin.min_ #[3, 3] 3 #[.int .i64 16, .int .i64 (ab.weight + (gmod grow))]) w_ = .ok (.int .i64 (min (16 : Int) (ab.weight + (gmod grow)))) w_ := fun w_ => run_minI
        refine WL.sem (Builtin.min_ #[3, 3] 3 #[.int .i64 16, .int .i64 (ab.weight + (gmod grow))]) 105 (.int .i64 (min (16 : Int) (ab.weight + (gmod grow)))) (by kernel_rfl) (cY _) ?_
        refine WLi ag (0 + L.length) ah 106 .i64 (j : Int) b301 0 j 3 (by kernel_rfl) ay (by omega) (by omega) (j * 3) (by first | (simp; done) | omega) ?_
        refine WLq 1 [(107, .pointer (some ⟨b301, j * 3 + 2, none⟩))] ?_
        obtain ⟨eS, cZ, c3, c4, c5⟩ := stoE_run Try.prog cellsE_len aM 1 ay rfl ax j 2 (x := ab) am (⟨ab.dip, ab.port, min (16 : Int) (ab.weight + (gmod grow))⟩ : EndV) [.int .i64 (min (16 : Int) (ab.weight + (gmod grow)))] rfl 3 (.int .i64 (min (16 : Int) (ab.weight + (gmod grow)))) (j * 3 + 2) rfl rfl rfl (by first | rfl | simp [Nat.add_assoc])
        refine WL.semU (Instr.storeAt 3 (.pointer (some ⟨b301, j * 3 + 2, none⟩)) (.int .i64 (min (16 : Int) (ab.weight + (gmod grow))))) (by kernel_rfl) cZ ?_
        have c6 := own_fr bJ c3 (aM.disj 0 1 rfl rfl (by decide))
        refine WLd rfl ?_
        refine QXb ?_
        refine QXn (bH _ _ ?_)
        refine WCg (WLq 1 [(108, .int .i64 (IntKind.i64.wrap ((j : Int) + 1)))] ?_)
        refine WLt (show (.int .i64 (IntKind.i64.wrap ((j : Int) + 1)) : Value) = .int .i64 ((j : Int) + 1) from by rw [wrap_in_i64 ((j : Int) + 1) (by omega) (by omega)]) ?_
        refine WLq 1 [(84, .int .i64 ((j : Int) + 1))] ?_
        refine WLd rfl ?_
        refine QXn ?_
        have c7 := c5.pick [0, 1, 2] [0, 1] rfl rfl
        refine fun a_ ha_ => bG _ _ _ ?_ ⟨j + 1, rfl, rfl, c7, c6, (by rw [← growL_hit am (endV_eq (bc))]; exact c4), by omega⟩ a_ (ha_.weaken (sub_of ⟨rfl, rfl, rfl, rfl, rfl, rfl, rfl, rfl, rfl, rfl, trivial⟩))
        omega
       ·
        refine WCf rfl (WC.skip ?_)
        refine QXb ?_
        refine QXn (bH _ _ ?_)
        refine WCg (WLq 1 [(108, .int .i64 (IntKind.i64.wrap ((j : Int) + 1)))] ?_)
        refine WLt (show (.int .i64 (IntKind.i64.wrap ((j : Int) + 1)) : Value) = .int .i64 ((j : Int) + 1) from by rw [wrap_in_i64 ((j : Int) + 1) (by omega) (by omega)]) ?_
        refine WLq 1 [(84, .int .i64 ((j : Int) + 1))] ?_
        refine WLd rfl ?_
        refine QXn ?_
        have c8 := aM.pick [0, 1, 2] [0, 1] rfl rfl
        refine fun a_ ha_ => bG _ _ _ ?_ ⟨j + 1, rfl, rfl, c8, bJ, (by rw [← growL_miss am (endV_ne bc)]; exact ax), by omega⟩ a_ (ha_.weaken (sub_of ⟨rfl, rfl, rfl, rfl, rfl, rfl, rfl, rfl, rfl, rfl, trivial⟩))
        omega
      ·
       have dQ : (0 + L.length : Int) ≤ (j : Int) := by have q_ := of_decide_eq_false bb; omega
       refine WCf rfl ?_
       refine WC.exit ?_
       refine QXe ?_
       refine QXe ?_
       refine QX.block_hit ?_
       refine QXn (a6 _ _ ?_)
       refine WCs (fun eT bd => ?_)
       refine WCg ?_
       refine WLo 25 (.pointer (some ⟨g3, 0, none⟩)) (.agg #[.int .i64 f.proto, .int .u32 f.src, .int .i64 f.sp, .int .u32 f.dst, .int .i64 f.dp]) 110 (run_ld (a8.get 0 rfl) rfl) ?_
       refine WLq 1 [(111, .slice ag (0 + L.length) ah)] ?_
       have bK : World.ownsRow cT 0 49 3 (.slice ag (0 + L.length) ah) (0 + L.length) ((L.map (grE (chosenE f L) (gmod grow))).flatMap cellsE) := by have q_ := hmore; rw [growL_end (by omega)] at q_; exact q_
       refine WLc rfl rfl rfl rfl rfl (by kernel_rfl) (Choose_n f ag (0 + L.length) ah (L.map (grE (chosenE f L) (gmod grow))) cT (own_rd bK cellsE_len (by decide)) (own_count cellsE_len (by decide) bK) (wf_gr hwf bf (gmod_b grow).1) (by first | omega | (simp; done) | (simp; omega))) ?_
       rintro _ eU ⟨rfl, c9⟩
       refine ⟨_, rfl, ?_⟩
       have da := a8.call c9
       refine WLq 3 [(114, .bool (foundB f (L.map (grE (chosenE f L) (gmod grow))))), (113, .agg #[.int .u32 ((chosenE f (L.map (grE (chosenE f L) (gmod grow)))).dip), .int .i64 ((chosenE f (L.map (grE (chosenE f L) (gmod grow)))).port), .int .i64 ((chosenE f (L.map (grE (chosenE f L) (gmod grow)))).weight)]), (109, .tuple #[.agg #[.int .u32 ((chosenE f (L.map (grE (chosenE f L) (gmod grow)))).dip), .int .i64 ((chosenE f (L.map (grE (chosenE f L) (gmod grow)))).port), .int .i64 ((chosenE f (L.map (grE (chosenE f L) (gmod grow)))).weight)], .bool (foundB f (L.map (grE (chosenE f L) (gmod grow))))])] ?_
       refine WL.newM da (fun b => .pointer (some ⟨b, 0, none⟩)) (.cells #[.int .u32 0, .int .i64 0, .int .i64 0] 49) 17 (fun _ => by kernel_rfl) (fun bV eV d1 d2 db => ?_)
       refine WLs (c' := #[.int .u32 ((chosenE f (L.map (grE (chosenE f L) (gmod grow)))).dip), .int .i64 ((chosenE f (L.map (grE (chosenE f L) (gmod grow)))).port), .int .i64 ((chosenE f (L.map (grE (chosenE f L) (gmod grow)))).weight)]) db 3 49 bV 0 (.agg #[.int .u32 ((chosenE f (L.map (grE (chosenE f L) (gmod grow)))).dip), .int .i64 ((chosenE f (L.map (grE (chosenE f L) (gmod grow)))).port), .int .i64 ((chosenE f (L.map (grE (chosenE f L) (gmod grow)))).weight)]) (by kernel_rfl) rfl (by kernel_rfl) (fun eW d3 be => ?_)
       refine WLq 1 [(10, .bool (foundB f (L.map (grE (chosenE f L) (gmod grow)))))] (WLd rfl (QXn (bd _ _ ?_)))
       refine WCs (fun eX aN => ?_)
       refine WCg (WLq 2 [(116, .bool (foundB f (L.map (grE (chosenE f L) (gmod grow))))), (115, .bool (foundB f (L.map (grE (chosenE f L) (gmod grow)))))] ?_)
       refine WLa 116 (foundB f (L.map (grE (chosenE f L) (gmod grow)))) rfl (fun bL => ?_) (fun bL => ?_)
       ·
        refine WLq 1 [(117, .pointer (some ⟨bV, 0, none⟩))] ?_
        refine WLo 23 (.pointer (some ⟨bV, 0, none⟩)) (.int .u32 ((chosenE f (L.map (grE (chosenE f L) (gmod grow)))).dip)) 118 (run_ld (be.get 3 rfl) rfl) ?_
        refine WLq 1 [(119, .pointer (some ⟨aO, 0, none⟩))] ?_
        refine WLo 23 (.pointer (some ⟨aO, 0, none⟩)) (.int .u32 ((chosenE f L).dip)) 120 (run_ld (be.get 1 rfl) rfl) ?_
        refine WLq 3 [(8, .bool (((chosenE f (L.map (grE (chosenE f L) (gmod grow)))).dip) == ((chosenE f L).dip))), (122, .bool (((chosenE f (L.map (grE (chosenE f L) (gmod grow)))).dip) == ((chosenE f L).dip))), (121, .bool (((chosenE f (L.map (grE (chosenE f L) (gmod grow)))).dip) == ((chosenE f L).dip)))] (WLd rfl (QXn (aN _ _ ?_)))
        refine WC.ret ?_
        refine (hret _ _ _ rfl ?_).1
        clear hN hret hret' aN bd ba a9 a7 a6 a4 ai aj ak aJ aI aD aC aB an aA az hK9 hK2
        have q_ := grow_law (g := gmod grow) bf bl (gmod_b grow).1
        exact ⟨by show Ending.returned (Value.bool (_ == _)) = _; rw [q_.2, beq_self_eq_true], be.fr⟩
       ·
        refine WLq 7 [(8, .bool false), (122, .bool false), (121, undef), (120, undef), (119, undef), (118, undef), (117, undef)] (WLd rfl (QXn (aN _ _ ?_)))
        refine WC.ret ?_
        refine (hret _ _ _ rfl ?_).1
        clear hN hret hret' aN bd ba a9 a7 a6 a4 ai aj ak aJ aI aD aC aB an aA az hK9 hK2
        have q_ := grow_law (g := gmod grow) bf bl (gmod_b grow).1
        rw [bL] at q_
        cases q_.1

theorem RingHolds_ct (f : FlowV) (A : Option Addr) (c : Nat) (L : List EndV) (out grow : Int) (w : World) (hr : Rd w 3 cellsE A L) (hwf : ∀ e ∈ L, wfE e) (hlc : L.length ≤ c) : Calls Try.prog 3 #[.agg #[.int .i64 f.proto, .int .u32 f.src, .int .i64 f.sp, .int .u32 f.dst, .int .i64 f.dp, .slice A L.length c, .int .i64 out, .int .i64 grow]] w fun e w' => e = .returned (.bool true) ∧ Fr w w' [] := by
 refine enterD (n := 12) Try.func3 rfl rfl (Nat.le_of_ble_eq_true rfl) ?_
 intro Q0 hN hret hret'
 have hC := Cx.start w
 refine WCs (fun K1 hK2 => ?_)
 refine WCg ?_
 refine WL.newM hC (fun b => .pointer (some ⟨b, 0, none⟩)) (.cells #[.int .i64 f.proto, .int .u32 f.src, .int .i64 f.sp, .int .u32 f.dst, .int .i64 f.dp, .slice A L.length c, .int .i64 out, .int .i64 grow] 28) 1 (fun _ => by kernel_rfl) (fun g3 w4 hb7 hF5 hC6 => ?_)
 refine WLq 1 [(2, .bool false)] (WLd rfl (QXn (hK2 _ _ ?_)))
 refine WCs (fun K8 hK9 => ?_)
 refine WCg (WLq 1 [(3, .pointer (some ⟨g3, 0, none⟩))] ?_)
 refine WLo 25 (.pointer (some ⟨g3, 0, none⟩)) (.agg #[.int .i64 f.proto, .int .u32 f.src, .int .i64 f.sp, .int .u32 f.dst, .int .i64 f.dp]) 4 (run_ld (hC6.get 0 rfl) rfl) ?_
 refine WLq 1 [(5, .pointer (some ⟨g3, 5, none⟩))] ?_
 refine WLo 26 (.pointer (some ⟨g3, 5, none⟩)) (.slice A L.length c) 6 (run_ld (hC6.get 0 rfl) rfl) ?_
 refine WLq 1 [(7, .pointer (some ⟨g3, 6, none⟩))] ?_
 refine WLo 3 (.pointer (some ⟨g3, 6, none⟩)) (.int .i64 out) 8 (run_ld (hC6.get 0 rfl) rfl) ?_
 refine WLq 1 [(9, .pointer (some ⟨g3, 7, none⟩))] ?_
 refine WLo 3 (.pointer (some ⟨g3, 7, none⟩)) (.int .i64 grow) 10 (run_ld (hC6.get 0 rfl) rfl) ?_
 refine WLc rfl rfl rfl rfl rfl (by kernel_rfl) (stays_ct f A c L out grow w4 (Rd.fr hr hC6.fr) hwf hlc) ?_
 rintro _ ac ⟨rfl, aa⟩
 refine ⟨_, rfl, ?_⟩
 have ab := hC6.call aa
 refine WLq 1 [(2, .bool true)] (WLd rfl (QXn (hK9 _ _ ?_)))
 refine WC.ret ?_
 refine (hret _ _ _ rfl ?_).1
 exact ⟨rfl, ab.fr⟩

end Go.Proofs.Ytibkndhgeeoidaa
