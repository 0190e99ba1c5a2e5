/- Contracts of functions of the program, each proved by a walk through its code; conditions stand in the statements. -/
import Derived.Test.YtelmklombehhkaaSbM13
import Derived.Test.YtelmklombehhkaaTwAl
namespace Go.Proofs.Ytelmklombehhkaa
set_option linter.unusedSimpArgs false
set_option linter.unusedVariables false
set_option linter.unusedSectionVars false
open Go Go.RowKit Go.Tw
set_option linter.unusedVariables false
set_option maxRecDepth 20000
/-! ### the document's store: lists in the order of their keys -/
def ltK (a b : ByteArray) : Bool := Op.bytesLess a.toList b.toList
theorem bL_irr : ∀ x : List UInt8, Op.bytesLess x x = false
  | [] => rfl
  | a :: x => by
    rw [show Op.bytesLess (a :: x) (a :: x) = (decide (a < a) || (a == a && Op.bytesLess x x)) from rfl, bL_irr x]
    simp
theorem bL_cons {a b : UInt8} {x y : List UInt8} : Op.bytesLess (a :: x) (b :: y) = true ↔ a.toNat < b.toNat ∨ a.toNat = b.toNat ∧ Op.bytesLess x y = true := by
  rw [show Op.bytesLess (a :: x) (b :: y) = (decide (a < b) || (a == b && Op.bytesLess x y)) from rfl]
  simp only [Bool.or_eq_true, Bool.and_eq_true, decide_eq_true_eq, beq_iff_eq, UInt8.lt_iff_toNat_lt, ← UInt8.toNat_inj]
theorem bL_trans : ∀ x y z : List UInt8, Op.bytesLess x y = true → Op.bytesLess y z = true → Op.bytesLess x z = true
  | x, [], z, h, _ => by cases x <;> simp [Op.bytesLess] at h
  | x, b :: y, [], _, h => by simp [Op.bytesLess] at h
  | [], b :: y, c :: z, _, _ => by simp [Op.bytesLess]
  | a :: x, b :: y, c :: z, h1, h2 => by
    rw [bL_cons] at *
    rcases h1 with h1 | ⟨h1, h3⟩ <;> rcases h2 with h2 | ⟨h2, h4⟩
    · left; omega
    · left; omega
    · left; omega
    · right; exact ⟨by omega, bL_trans x y z h3 h4⟩
theorem bL_tot : ∀ x y : List UInt8, Op.bytesLess x y = false → Op.bytesLess y x = false → x = y
  | [], [], _, _ => rfl
  | [], b :: y, h, _ => by simp [Op.bytesLess] at h
  | a :: x, [], _, h => by simp [Op.bytesLess] at h
  | a :: x, b :: y, h1, h2 => by
    have g1 : ¬ Op.bytesLess (a :: x) (b :: y) = true := by rw [h1]; decide
    have g2 : ¬ Op.bytesLess (b :: y) (a :: x) = true := by rw [h2]; decide
    rw [bL_cons] at g1 g2
    have e : a.toNat = b.toNat := by omega
    have e1 : Op.bytesLess x y = false := by
      cases h : Op.bytesLess x y with
      | false => rfl
      | true => exact absurd (.inr ⟨e, h⟩) g1
    have e2 : Op.bytesLess y x = false := by
      cases h : Op.bytesLess y x with
      | false => rfl
      | true => exact absurd (.inr ⟨e.symm, h⟩) g2
    rw [bL_tot x y e1 e2, UInt8.toNat_inj.1 e]
theorem bL_iff : ∀ x y : List UInt8, Op.bytesLess x y = true ↔ x < y
  | x, [] => by cases x <;> simp [Op.bytesLess]
  | [], b :: y => by simp [Op.bytesLess]
  | a :: x, b :: y => by
    rw [bL_cons, List.cons_lt_cons_iff, bL_iff x y, UInt8.lt_iff_toNat_lt, ← UInt8.toNat_inj]
theorem ltK_irr (a : ByteArray) : ltK a a = false := bL_irr _
theorem ltK_trans {a b c : ByteArray} (h1 : ltK a b = true) (h2 : ltK b c = true) : ltK a c = true := bL_trans _ _ _ h1 h2
theorem ltK_tot {a b : ByteArray} (h1 : ltK a b = false) (h2 : ltK b a = false) : a = b := by
  have := bL_tot _ _ h1 h2
  rw [ByteArray.toList_eq, ByteArray.toList_eq] at this
  obtain ⟨⟨x⟩⟩ := a
  obtain ⟨⟨y⟩⟩ := b
  simpa using this
theorem ltK_asym {a b : ByteArray} (h : ltK a b = true) : ltK b a = false := by
  cases g : ltK b a with
  | false => rfl
  | true => have := ltK_trans h g; rw [ltK_irr] at this; cases this
theorem leB_iff (x y : List UInt8) : leB x y = true ↔ Op.bytesLess y x = false := by
  show decide (x ≤ y) = true ↔ _
  rw [decide_eq_true_eq, show (x ≤ y) = ¬ (y < x) from rfl, ← bL_iff]
  cases Op.bytesLess y x <;> simp
section
variable {β : Type}
def srtK (L : List (ByteArray × β)) : Prop := L.Pairwise fun a b => ltK a.1 b.1 = true
def outK (L : List (ByteArray × β)) (k : ByteArray) : List (ByteArray × β) := L.filter fun p => !decide (p.1 = k)
def insK (x : ByteArray × β) : List (ByteArray × β) → List (ByteArray × β)
  | [] => [x]
  | a :: r => if ltK x.1 a.1 then x :: a :: r else a :: insK x r
def insKB (x : ByteArray × β) (dn : Bool) (L : List (ByteArray × β)) : List (ByteArray × β) := if dn then L else insK x L
theorem insK_len (x : ByteArray × β) (L : List (ByteArray × β)) : (insK x L).length = L.length + 1 := by
  induction L with
  | nil => rfl
  | cons a r ih => unfold insK; split <;> simp [ih]
theorem insK_hit {x e : ByteArray × β} {L nx : List (ByteArray × β)} {k : Nat} {dn : Bool} (h : insK x L = nx ++ insKB x dn (L.drop k)) (hd : dn = false) (he : L[k]? = some e) (hl : ltK x.1 e.1 = true) : insK x L = (nx ++ [x] ++ [e]) ++ insKB x true (L.drop (k + 1)) := by
  subst hd
  rw [h, Go.Tw.drop_step he]
  unfold insKB
  rw [if_neg (by decide), if_pos rfl]
  conv => lhs; unfold insK
  rw [if_pos hl]; simp
theorem insK_miss {x e : ByteArray × β} {L nx : List (ByteArray × β)} {k : Nat} {dn : Bool} (h : insK x L = nx ++ insKB x dn (L.drop k)) (hd : dn = false) (he : L[k]? = some e) (hl : ltK x.1 e.1 = false) : insK x L = (nx ++ [e]) ++ insKB x dn (L.drop (k + 1)) := by
  subst hd
  rw [h, Go.Tw.drop_step he]
  unfold insKB
  rw [if_neg (by decide), if_neg (by decide)]
  conv => lhs; unfold insK
  rw [if_neg (by rw [hl]; decide)]; simp
theorem insK_done {x e : ByteArray × β} {L nx : List (ByteArray × β)} {k : Nat} {dn : Bool} (h : insK x L = nx ++ insKB x dn (L.drop k)) (hd : dn = true) (he : L[k]? = some e) : insK x L = (nx ++ [e]) ++ insKB x dn (L.drop (k + 1)) := by
  subst hd
  rw [h, Go.Tw.drop_step he]
  unfold insKB
  rw [if_pos rfl, if_pos rfl]; simp
theorem insK_end {x : ByteArray × β} {L nx : List (ByteArray × β)} {k : Nat} {dn : Bool} (h : insK x L = nx ++ insKB x dn (L.drop k)) (hk : L.length ≤ k) : insK x L = if dn then nx else nx ++ [x] := by
  rw [h, List.drop_eq_nil_of_le hk]
  unfold insKB
  cases dn with
  | true => simp
  | false => rfl
theorem insK_nl {x : ByteArray × β} {L nx : List (ByteArray × β)} {k : Nat} {dn : Bool} (h : insK x L = nx ++ insKB x dn (L.drop k)) (hk : k ≤ L.length) : nx.length ≤ k + 1 := by
  have h1 := congrArg List.length h
  rw [insK_len, List.length_append] at h1
  have h2 : (L.drop k).length ≤ (insKB x dn (L.drop k)).length := by
    unfold insKB
    cases dn with
    | true => exact Nat.le_refl _
    | false => rw [if_neg (by decide), insK_len]; omega
  rw [List.length_drop] at h2
  omega
theorem mem_insK {x y : ByteArray × β} {L : List (ByteArray × β)} : y ∈ insK x L ↔ y = x ∨ y ∈ L := by
  induction L with
  | nil => simp [insK]
  | cons a r ih =>
    unfold insK
    split
    · simp
    · rw [List.mem_cons, ih, List.mem_cons]
      constructor
      · rintro (h | h | h)
        · exact .inr (.inl h)
        · exact .inl h
        · exact .inr (.inr h)
      · rintro (h | h | h)
        · exact .inr (.inl h)
        · exact .inl h
        · exact .inr (.inr h)
theorem mem_outK {L : List (ByteArray × β)} {k : ByteArray} {x : ByteArray × β} : x ∈ outK L k ↔ x ∈ L ∧ x.1 ≠ k := by
  unfold outK; rw [List.mem_filter]; simp
theorem outK_len (L : List (ByteArray × β)) (k : ByteArray) : (outK L k).length ≤ L.length := List.length_filter_le _ _
theorem outK_snoc {L : List (ByteArray × β)} {i : Nat} {e : ByteArray × β} (k : ByteArray) (h : L[i]? = some e) : outK (L.take (i + 1)) k = outK (L.take i) k ++ if e.1 = k then [] else [e] := by
  unfold outK
  rw [take_step h, List.filter_append]
  by_cases hp : e.1 = k
  · simp [hp]
  · simp [hp]
theorem srt_ins {x : ByteArray × β} {L : List (ByteArray × β)} (h : srtK L) (hn : ∀ y ∈ L, y.1 ≠ x.1) : srtK (insK x L) := by
  induction L with
  | nil => unfold insK srtK; simp
  | cons a r ih =>
    unfold srtK at h
    rw [List.pairwise_cons] at h
    unfold insK
    split
    · rename_i hl
      unfold srtK
      rw [List.pairwise_cons]
      refine ⟨fun y hy => ?_, List.pairwise_cons.2 h⟩
      rcases List.mem_cons.1 hy with rfl | hy
      · exact hl
      · exact ltK_trans hl (h.1 y hy)
    · rename_i hl
      have h2 := ih h.2 fun y hy => hn y (List.mem_cons_of_mem _ hy)
      unfold srtK at h2 ⊢
      rw [List.pairwise_cons]
      refine ⟨fun y hy => ?_, h2⟩
      rcases mem_insK.1 hy with rfl | hy
      · cases hc : ltK a.1 y.1 with
        | true => rfl
        | false => exact absurd (ltK_tot hc (by simpa using hl)) (hn a List.mem_cons_self)
      · exact h.1 y hy
theorem srt_out {L : List (ByteArray × β)} (h : srtK L) (k : ByteArray) : srtK (outK L k) := List.Pairwise.sublist List.filter_sublist h
theorem srt_nodup {L : List (ByteArray × β)} (h : srtK L) : (L.map (·.1)).Nodup := by
  rw [List.Nodup, List.pairwise_map]
  refine List.Pairwise.imp (fun {a b} hab e => ?_) h
  rw [e, ltK_irr] at hab; cases hab
theorem srt_uniq {D E : List (ByteArray × β)} (h1 : srtK D) (h2 : srtK E) (hm : ∀ x, x ∈ D ↔ x ∈ E) : D = E := by
  have nd : ∀ {L : List (ByteArray × β)}, srtK L → L.Nodup := fun {L} h => List.Pairwise.imp (fun {a b} hab e => by rw [e, ltK_irr] at hab; cases hab) h
  have hp : D.Perm E := (List.perm_ext_iff_of_nodup (nd h1) (nd h2)).2 hm
  have g1 : D.Pairwise (fun a b => ltK a.1 b.1 = true) := h1
  have g2 : E.Pairwise (fun a b => ltK a.1 b.1 = true) := h2
  refine List.Perm.eq_of_pairwise (le := fun a b => ltK a.1 b.1 = true) (fun a b _ _ hab hba => ?_) g1 g2 hp
  have := ltK_trans hab hba
  rw [ltK_irr] at this; cases this
end
inductive FindP (ps : Mt) (k : ByteArray) : Int → Prop
  | none : (∀ p ∈ ps, p.1 ≠ k) → FindP ps k (-1)
  | some (i : Nat) (e : ByteArray × BRow) : ps[i]? = some e → e.1 = k → (∀ p ∈ ps.take i, p.1 ≠ k) → FindP ps k (i : Int)
theorem nek_snoc {ps : Mt} {k : ByteArray} {i : Nat} {e : ByteArray × BRow} (h : ∀ p ∈ ps.take i, p.1 ≠ k) (he : ps[i]? = some e) (hn : e.1 ≠ k) : ∀ p ∈ ps.take (i + 1), p.1 ≠ k := by
  rw [take_step he]
  intro p hp
  rcases List.mem_append.1 hp with hp | hp
  · exact h p hp
  · obtain rfl := List.mem_singleton.1 hp; exact hn
theorem find_look {ps : Mt} {k : ByteArray} {i : Nat} {e : ByteArray × BRow} (he : ps[i]? = some e) (hk : e.1 = k) (hb : ∀ p ∈ ps.take i, p.1 ≠ k) : lookL ps k = some e.2 := by
  induction ps generalizing i with
  | nil => cases he
  | cons a r ih =>
    obtain ⟨x, y⟩ := a
    unfold lookL
    cases i with
    | zero => cases he; rw [if_pos hk]
    | succ i =>
      rw [if_neg (hb (x, y) (by simp))]
      exact ih he fun p hp => hb p (by simp [hp])
theorem none_look {ps : Mt} {k : ByteArray} (h : ∀ p ∈ ps, p.1 ≠ k) : lookL ps k = none := al_none.2 h
theorem ct_out (ps : Mt) (k : ByteArray) : ct (outK ps k) = outK (ct ps) k := by
  unfold ct outK
  rw [List.filter_map]
  rfl
theorem ct_ins (x : ByteArray × BRow) (ps : Mt) : ct (insK x ps) = insK (x.1, x.2.xs) (ct ps) := by
  induction ps with
  | nil => rfl
  | cons a r ih =>
    show ct (if ltK x.1 a.1 then x :: a :: r else a :: insK x r) = if ltK x.1 a.1 then _ else _
    split
    · rfl
    · show (a.1, a.2.xs) :: ct (insK x r) = _
      rw [ih]; rfl
theorem listL_srt {N : Ct} (hn : (N.map (·.1)).Nodup) : srtK (listL N) := by
  have h1 : (keysL N).Pairwise (fun a b => ltK b a = false) := by
    unfold keysL
    rw [List.pairwise_map]
    refine (List.pairwise_mergeSort (le := leB) ?_ ?_ _).imp fun {a b} hab => ?_
    · intro a b c h1 h2
      rw [leB_iff] at *
      cases h : Op.bytesLess c a with
      | false => rfl
      | true =>
        exfalso
        by_cases e : b = c
        · subst e; rw [h1] at h; cases h
        · cases g : Op.bytesLess b c with
          | false => exact e (bL_tot _ _ g h2)
          | true => have := bL_trans _ _ _ g h; rw [h1] at this; cases this
    · intro a b
      rw [Bool.or_eq_true, leB_iff, leB_iff]
      cases h : Op.bytesLess b a with
      | false => exact .inl rfl
      | true =>
        right
        cases g : Op.bytesLess a b with
        | false => rfl
        | true => have := bL_trans _ _ _ h g; rw [bL_irr] at this; cases this
    · rw [leB_iff] at hab
      unfold ltK
      rw [ByteArray.toList_eq, ByteArray.toList_eq]
      simpa using hab
  have h2 : (keysL N).Nodup := (keysL_perm_keys N).nodup_iff.2 hn
  unfold srtK listL
  rw [List.pairwise_map]
  refine (h1.and h2).imp fun {a b} ⟨hab, hne⟩ => ?_
  dsimp only
  cases h : ltK a b with
  | true => rfl
  | false => exact absurd (ltK_tot h hab) hne
theorem mem_listL {N : Ct} (hn : (N.map (·.1)).Nodup) {x : ByteArray × List Int} : x ∈ listL N ↔ x ∈ N := (listL_perm hn).mem_iff
theorem listL_del {N : Ct} (hn : (N.map (·.1)).Nodup) (k : ByteArray) : outK (listL N) k = listL (delL N k) := by
  refine srt_uniq (srt_out (listL_srt hn) k) (listL_srt (delL_keys _ _ hn)) fun x => ?_
  rw [mem_outK, mem_listL hn, mem_listL (delL_keys _ _ hn), al_mem_del hn]
theorem listL_put {N : Ct} (hn : (N.map (·.1)).Nodup) (k : ByteArray) (xs : List Int) : insK (k, xs) (outK (listL N) k) = listL (putL N k xs) := by
  refine srt_uniq (srt_ins (srt_out (listL_srt hn) k) fun y hy => (mem_outK.1 hy).2) (listL_srt (putL_keys _ _ _ hn)) fun x => ?_
  rw [mem_insK, mem_outK, mem_listL hn, mem_listL (putL_keys _ _ _ hn), al_mem_put hn]
theorem listL_look {N : Ct} (hn : (N.map (·.1)).Nodup) (k : ByteArray) : lookL (listL N) k = lookL N k := by
  have hn2 := srt_nodup (listL_srt hn)
  cases h : lookL N k with
  | none =>
    rw [al_none] at h ⊢
    exact fun p hp => h p ((mem_listL hn).1 hp)
  | some v => exact al_mem_look hn2 ((mem_listL hn).2 (al_look_mem h))
theorem used_listL_del {N : Ct} (hn : (N.map (·.1)).Nodup) (k : ByteArray) : usedL (outK (listL N) k) = usedL (delL N k) := by
  rw [listL_del hn, listL_used (delL_keys _ _ hn)]
theorem unl_listL {N Y : Ct} (hn : (N.map (·.1)).Nodup) (hy : (Y.map (·.1)).Nodup) : unlN (listL N) (listL Y) = unlN N Y := by
  unfold unlN
  have e1 : ((listL N).filter fun p => !decide (lookL (listL Y) p.1 = some p.2)).length = (N.filter fun p => !decide (lookL Y p.1 = some p.2)).length := by
    rw [show (fun p : ByteArray × List Int => !decide (lookL (listL Y) p.1 = some p.2)) = fun p => !decide (lookL Y p.1 = some p.2) from funext fun p => by rw [listL_look hy]]
    exact ((listL_perm hn).filter _).length_eq
  have e2 : ((listL Y).filter fun p => (lookL (listL N) p.1).isNone).length = (Y.filter fun p => (lookL N p.1).isNone).length := by
    rw [show (fun p : ByteArray × List Int => (lookL (listL N) p.1).isNone) = fun p => (lookL N p.1).isNone from funext fun p => by rw [listL_look hn]]
    exact ((listL_perm hy).filter _).length_eq
  rw [e1, e2]
/-! ### its state in memory -/
def docAt (w : World) (R : List Nat) (p : Nat) (ps qs : Mt) (size : Int) : Prop :=
  ∃ (A : Option Addr) (c : Nat) (A2 : Option Addr) (c2 : Nat), w.heap[p]? = some (.cells #[.slice A ps.length c, .slice A2 qs.length c2, .int .i64 size] 52 (0, 0)) ∧ w.ownsRow 0 65 2 (.slice A ps.length c) ps.length (ps.flatMap cellP) ∧ w.ownsRow 0 65 2 (.slice A2 qs.length c2) qs.length (qs.flatMap cellP) ∧ rowsIn w R ps ∧ rowsIn w R qs ∧ (∀ x ∈ blk (.slice A ps.length c), x ∈ R) ∧ (∀ x ∈ blk (.slice A2 qs.length c2), x ∈ R) ∧ p ∉ R ∧ ∀ x ∈ R, x < w.heap.size
theorem docAt_lt {w : World} {R : List Nat} {p : Nat} {ps qs : Mt} {size : Int} (h : docAt w R p ps qs size) : ∀ x ∈ p :: R, x < w.heap.size := by
  obtain ⟨A, c, A2, c2, h1, _, _, _, _, _, _, _, h9⟩ := h
  intro x hx
  rcases List.mem_cons.1 hx with rfl | hx
  · exact lt_of_heap h1
  · exact h9 x hx
theorem docAt_fr {w w' : World} {R : List Nat} {p : Nat} {ps qs : Mt} {size : Int} {G : List Nat} (h : docAt w R p ps qs size) (hf : Fr w w' G) (hd : ∀ x ∈ p :: R, x ∉ G) : docAt w' R p ps qs size := by
  obtain ⟨A, c, A2, c2, h1, h2, h3, h4, h5, h6, h7, h8, h9⟩ := h
  have hR : ∀ x ∈ R, x ∉ G := fun x hx => hd x (List.mem_cons_of_mem _ hx)
  exact ⟨A, c, A2, c2, hf.has h1 (hd p List.mem_cons_self), own_fr h2 hf (fun x hx => hR x (h6 x hx)), own_fr h3 hf (fun x hx => hR x (h7 x hx)), rowsIn_fr h4 hf hR, rowsIn_fr h5 hf hR, h6, h7, h8, fun x hx => Nat.lt_of_lt_of_le (h9 x hx) hf.size⟩
theorem doc_mk {w : World} {R : List Nat} {p n c n2 c2 : Nat} {A A2 : Option Addr} {ps qs : Mt} {size : Int} (hp : w.heap[p]? = some (.cells #[.slice A n c, .slice A2 n2 c2, .int .i64 size] 52 (0, 0))) (h1 : w.ownsRow 0 65 2 (.slice A n c) n (ps.flatMap cellP)) (h2 : w.ownsRow 0 65 2 (.slice A2 n2 c2) n2 (qs.flatMap cellP)) (h3 : rowsIn w R ps) (h4 : rowsIn w R qs) (h5 : ∀ x ∈ blk (.slice A n c), x ∈ R) (h6 : ∀ x ∈ blk (.slice A2 n2 c2), x ∈ R) (h7 : p ∉ R) (h8 : ∀ x ∈ R, x < w.heap.size) : docAt w R p ps qs size := by
  obtain rfl := own_count cellP_len (by decide) h1
  obtain rfl := own_count cellP_len (by decide) h2
  exact ⟨A, c, A2, c2, hp, h1, h2, h3, h4, h5, h6, h7, h8⟩
theorem rowsIn_ins {w : World} {R : List Nat} {ps : Mt} {x : ByteArray × BRow} (h : rowsIn w R ps) (hr : rowAt w x.2) (hs : ∀ y ∈ rblk x.2, y ∈ R) : rowsIn w R (insK x ps) :=
  ⟨fun p hp => by
    rcases mem_insK.1 hp with rfl | h1
    · exact hr
    · exact h.1 p h1,
   fun y hy => by
    obtain ⟨p, hp, hy2⟩ := List.mem_flatMap.1 hy
    rcases mem_insK.1 hp with h1 | h1
    · rw [h1] at hy2; exact hs y hy2
    · exact h.2 y (rfoot_mem h1 hy2)⟩
theorem rowsIn_sub {w : World} {R : List Nat} {ps qs : Mt} (h : rowsIn w R ps) (hs : ∀ p ∈ qs, p ∈ ps) : rowsIn w R qs :=
  ⟨fun p hp => h.1 p (hs p hp), fun x hx => by
    obtain ⟨p, hp, hx⟩ := List.mem_flatMap.1 hx
    exact h.2 x (rfoot_mem (hs p hp) hx)⟩
def unlA (ps qs : Mt) : Nat := (ps.filter fun p => !decide (lookL (ct qs) p.1 = some p.2.xs)).length
def unlB (ps qs : Mt) : Nat := (qs.filter fun p => (lookL (ct ps) p.1).isNone).length
theorem unl_AB (ps qs : Mt) : unlN (ct ps) (ct qs) = unlA ps qs + unlB ps qs := by
  unfold unlN unlA unlB
  have e1 : ((ct ps).filter fun p => !decide (lookL (ct qs) p.1 = some p.2)).length = (ps.filter fun p => !decide (lookL (ct qs) p.1 = some p.2.xs)).length := by
    conv => lhs; unfold ct
    rw [List.filter_map, List.length_map]; rfl
  have e2 : ((ct qs).filter fun p => (lookL (ct ps) p.1).isNone).length = (qs.filter fun p => (lookL (ct ps) p.1).isNone).length := by
    conv => lhs; unfold ct
    rw [List.filter_map, List.length_map]; rfl
  rw [e1, e2]
theorem unlA_snoc {ps qs : Mt} {i : Nat} {e : ByteArray × BRow} (h : ps[i]? = some e) : unlA (ps.take (i + 1)) qs = unlA (ps.take i) qs + if lookL (ct qs) e.1 = some e.2.xs then 0 else 1 := by
  unfold unlA
  rw [take_step h, List.filter_append, List.length_append]
  by_cases hp : lookL (ct qs) e.1 = some e.2.xs
  · simp [hp]
  · simp [hp]
theorem unlB_snoc {ps qs : Mt} {i : Nat} {e : ByteArray × BRow} (h : qs[i]? = some e) : unlB ps (qs.take (i + 1)) = unlB ps (qs.take i) + if (lookL (ct ps) e.1).isNone then 1 else 0 := by
  unfold unlB
  rw [take_step h, List.filter_append, List.length_append]
  by_cases hp : (lookL (ct ps) e.1).isNone = true
  · simp [hp]
  · simp [hp]
theorem unl_le (ps qs : Mt) : unlA ps qs ≤ ps.length ∧ unlB ps qs ≤ qs.length := ⟨List.length_filter_le _ _, List.length_filter_le _ _⟩
theorem used_outK (ps : Mt) (k : ByteArray) : usedL (ct (outK ps k)) ≤ usedL (ct ps) := by
  unfold ct outK usedL
  induction ps with
  | nil => exact Nat.le_refl _
  | cons a r ih =>
    rw [List.filter_cons]
    split
    · simp only [List.map_cons, List.sum_cons] at ih ⊢; omega
    · simp only [List.map_cons, List.sum_cons] at ih ⊢; omega
theorem str_eq_of {a b : ByteArray} (h : (a.toList == b.toList) = true) : a = b := by rw [str_eql] at h; exact of_decide_eq_true h
theorem str_ne_of {a b : ByteArray} (h : (a.toList == b.toList) = false) : a ≠ b := by rw [str_eql] at h; exact of_decide_eq_false h
theorem str_eq_of2 {a b : ByteArray} (h : decide (a = b) = true) : a = b := of_decide_eq_true h
theorem str_ne_of2 {a b : ByteArray} (h : decide (a = b) = false) : a ≠ b := of_decide_eq_false h
theorem str_eq_of3 {a b : ByteArray} (h : (!decide (a = b)) = false) : a = b := by simpa using h
theorem str_ne_of3 {a b : ByteArray} (h : (!decide (a = b)) = true) : a ≠ b := by simpa using h
theorem RFind_ct (A : Option Addr) (c : Nat) (ps : Mt) (key : ByteArray)  (w : World) (hrd : Rd w 2 cellP A ps) (hl1 : ps.length ≤ 9223372036854775807) : Calls Try.prog 40 #[.slice A ps.length c, .string key] w fun e w' => ∃ r : Int, e = .returned (.int .i64 r) ∧ Fr w w' [] ∧ FindP ps key r := by
  refine enterD (n := 20) Try.func40 rfl rfl (Nat.le_of_ble_eq_true rfl) ?_
  intro Q0 hN hret hret'
  have hC := Cx.start w
  refine WC.seq (fun K1 hK2 => ?_)
  refine WC.region ?_
  refine WL.runs 1 [(4, .int .i64 0)] (fun _ => by kernel_rfl) ?_
  refine WL.done rfl ?_
  refine QX.then_normal (hK2 _ _ ?_)
  refine WC.seq (fun K3 hK4 => ?_)
  refine WC.seq (fun K5 hK6 => ?_)
  refine WC.region ?_
  refine WL.runs 1 [(5, .int .i64 0)] (fun _ => by kernel_rfl) ?_
  refine WL.done rfl ?_
  refine QX.then_normal (hK6 _ _ ?_)
  refine WC.block ?_
  refine WC.loop (fun m_ E_ w_ => ∃ (i : Nat), m_ = ps.length - i ∧ E_ = [(0, .slice A ps.length c), (1, .string key), (5, .int .i64 (i : Int))] ∧ Cx w [] w_ [] [] ∧ (i ≤ ps.length ∧ ∀ y ∈ ps.take i, y.1 ≠ key)) ⟨_, _, ⟨0, rfl, rfl, hC, Nat.zero_le _, (fun _ h_ => by simp at h_)⟩, sub_of ⟨rfl, rfl, rfl, trivial⟩⟩ (fun m10 E_ w11 K7 hK8 hI9 => ?_)
  obtain ⟨i, rfl, rfl, hC12, hi, hall⟩ := hI9
  refine WC.seq (fun K13 hK14 => ?_)
  refine WC.seq (fun K15 hK16 => ?_)
  refine WC.region ?_
  refine WL.runs 4 [(9, .bool (decide ((i : Int) < (ps.length : Int)))), (8, .int .i64 (ps.length : Int)), (7, .slice A ps.length c), (6, .int .i64 (i : Int))] (fun _ => by kernel_rfl) ?_
  refine WL.done rfl ?_
  refine QX.then_normal (hK16 _ _ ?_)
  refine WC.test_at 9 (decide ((i : Int) < (ps.length : Int))) rfl (fun t17b => ?_) (fun t17b => ?_)
  · -- (i : Int) < (ps.length : Int): true
    have t17 : (i : Int) < (ps.length : Int) := by have q_ := of_decide_eq_true t17b; omega
    refine WC.cond_true rfl ?_
    refine WC.skip ?_
    refine QX.then_normal (hK14 _ _ ?_)
    refine WC.seq (fun K18 hK19 => ?_)
    refine WC.block ?_
    refine WC.seq (fun K20 hK21 => ?_)
    refine WC.region ?_
    refine WL.runs 2 [(13, .int .i64 (i : Int)), (12, .slice A ps.length c)] (fun _ => by kernel_rfl) ?_
    obtain ⟨e22, he23⟩ := get_some (xs := ps) (i := i) (by omega)
    obtain ⟨b24, o26, hA25, hc27⟩ := hrd.at_ _ _ he23
    refine WL.index A ps.length c 14 .i64 (i : Int) b24 o26 i 2 (by kernel_rfl) hA25 (by omega) (by omega) (o26 + i * 2) (by first | (simp; done) | omega) ?_
    refine WL.runs 1 [(15, .pointer (some ⟨b24, o26 + i * 2, none⟩))] (fun _ => by kernel_rfl) ?_
    refine WL.load 9 (.pointer (some ⟨b24, o26 + i * 2, none⟩)) (.string e22.1) 16 (by kernel_rfl) (run_load1 rfl (by simpa [Nat.add_assoc] using hC12.fr.cell (hc27 0 _ rfl) (by simp))) ?_
    refine WL.runs 2 [(18, .bool (e22.1.toList == key.toList)), (17, .string key)] (fun _ => by kernel_rfl) ?_
    refine WL.recast (show (.bool (e22.1.toList == key.toList) : Value) = .bool (decide (e22.1 = key)) from by rw [str_eql]) ?_
    refine WL.done rfl ?_
    refine QX.then_normal (hK21 _ _ ?_)
    refine WC.test_at 18 (decide (e22.1 = key)) rfl (fun t28b => ?_) (fun t28b => ?_)
    · -- e22.1 = key: true
      have t28 : e22.1 = key := of_decide_eq_true t28b
      refine WC.cond_true rfl ?_
      refine WC.seq (fun K29 hK30 => ?_)
      refine WC.region ?_
      refine WL.runs 2 [(4, .int .i64 (i : Int)), (19, .int .i64 (i : Int))] (fun _ => by kernel_rfl) ?_
      refine WL.done rfl ?_
      refine QX.then_normal (hK30 _ _ ?_)
      refine WC.ret ?_
      refine QX.block_ret ?_
      refine QX.then_ret ?_
      refine QX.then_ret ?_
      refine QX.block_ret ?_
      refine QX.then_ret ?_
      refine (hret _ _ _ rfl ?_).1
      clear hN hret hret' hK30 hK21 hK19 hK16 hK14 hK6 hK4 hK2
      exact ⟨_, rfl, hC12.fr, .some i _ he23 (str_eq_of2 t28b) hall⟩
    · -- e22.1 = key: false
      have t28 : ¬ (e22.1 = key) := of_decide_eq_false t28b
      refine WC.cond_false rfl ?_
      refine WC.skip ?_
      refine QX.block_normal ?_
      refine QX.then_normal (hK19 _ _ ?_)
      refine WC.region ?_
      refine WL.runs 2 [(11, .int .i64 (IntKind.i64.wrap ((i : Int) + 1))), (10, .int .i64 (i : Int))] (fun _ => by kernel_rfl) ?_
      refine WL.recast (show (.int .i64 (IntKind.i64.wrap ((i : Int) + 1)) : Value) = .int .i64 ((i : Int) + 1) from by rw [wrap_in_i64 ((i : Int) + 1) (by omega) (by omega)]) ?_
      refine WL.runs 1 [(5, .int .i64 ((i : Int) + 1))] (fun _ => by kernel_rfl) ?_
      refine WL.done rfl ?_
      refine QX.then_normal ?_
      have hC31 := hC12.pick [] [] rfl rfl
      refine fun a_ ha_ => hK8 _ _ _ ?_ ⟨i + 1, rfl, rfl, hC31, by omega, nek_snoc hall he23 (str_ne_of2 t28b)⟩ a_ (ha_.weaken (sub_of ⟨rfl, rfl, rfl, trivial⟩))
      omega
  · -- (i : Int) < (ps.length : Int): false
    have t17 : (ps.length : Int) ≤ (i : Int) := by have q_ := of_decide_eq_false t17b; omega
    refine WC.cond_false rfl ?_
    refine WC.exit ?_
    refine QX.then_exit ?_
    refine QX.then_exit ?_
    refine QX.block_hit ?_
    refine QX.then_normal (hK4 _ _ ?_)
    refine WC.seq (fun K32 hK33 => ?_)
    refine WC.region ?_
    refine WL.runs 1 [(4, .int .i64 (-1))] (fun _ => by kernel_rfl) ?_
    refine WL.done rfl ?_
    refine QX.then_normal (hK33 _ _ ?_)
    refine WC.ret ?_
    refine (hret _ _ _ rfl ?_).1
    clear hN hret hret' hK33 hK16 hK14 hK6 hK4 hK2
    rw [take_all_of (by omega)] at hall
    exact ⟨-1, rfl, hC12.fr, .none hall⟩

theorem RWithout_ct (A : Option Addr) (c : Nat) (ps : Mt) (key : ByteArray)  (w : World) (hrd : Rd w 2 cellP A ps) (hl1 : ps.length ≤ 9223372036854775807) (hl2 : ps.length ≤ 67108864) : Calls Try.prog 38 #[.slice A ps.length c, .string key] w fun e w' => ∃ v, e = .returned v ∧ Fr w w' [] ∧ w'.ownsRow w.heap.size 65 2 v (outK ps key).length ((outK ps key).flatMap cellP) := by
  refine enterD (n := 28) Try.func38 rfl rfl (Nat.le_of_ble_eq_true rfl) ?_
  intro Q0 hN hret hret'
  have hC := Cx.start w
  refine WC.seq (fun K1 hK2 => ?_)
  refine WC.region ?_
  refine WL.runs 1 [(4, .slice none 0 0)] (fun _ => by kernel_rfl) ?_
  refine WL.done rfl ?_
  refine QX.then_normal (hK2 _ _ ?_)
  refine WC.seq (fun K3 hK4 => ?_)
  refine WC.region ?_
  refine WL.runs 1 [(5, .slice none 0 0)] (fun _ => by kernel_rfl) ?_
  refine WL.done rfl ?_
  refine QX.then_normal (hK4 _ _ ?_)
  refine WC.seq (fun K5 hK6 => ?_)
  refine WC.seq (fun K7 hK8 => ?_)
  refine WC.region ?_
  refine WL.runs 1 [(6, .int .i64 0)] (fun _ => by kernel_rfl) ?_
  refine WL.done rfl ?_
  refine QX.then_normal (hK8 _ _ ?_)
  refine WC.block ?_
  have hC9 := hC.addNil
  refine WC.loop (fun m_ E_ w_ => ∃ (i : Nat) (A5 : Option Addr) (n5 c5 : Nat), m_ = ps.length - i ∧ E_ = [(0, .slice A ps.length c), (1, .string key), (5, .slice A5 n5 c5), (6, .int .i64 (i : Int))] ∧ Cx w [] w_ [] [blk (.slice A5 n5 c5)] ∧ World.ownsRow w_ 0 65 2 (.slice A5 n5 c5) n5 ((outK (ps.take i) key).flatMap cellP) ∧ (i ≤ ps.length)) ⟨_, _, ⟨0, none, 0, 0, rfl, rfl, hC9, own_nil _ _ _ _, Nat.zero_le _⟩, sub_of ⟨rfl, rfl, rfl, rfl, trivial⟩⟩ (fun m13 E_ w14 K10 hK11 hI12 => ?_)
  obtain ⟨i, A5, n5, c5, rfl, rfl, hC15, hleft5, hi⟩ := hI12
  have hcn5_ := own_count cellP_len (by decide) hleft5
  have hol_ := outK_len (ps.take i) key
  rw [List.length_take] at hol_
  refine WC.seq (fun K16 hK17 => ?_)
  refine WC.seq (fun K18 hK19 => ?_)
  refine WC.region ?_
  refine WL.runs 4 [(10, .bool (decide ((i : Int) < (ps.length : Int)))), (9, .int .i64 (ps.length : Int)), (8, .slice A ps.length c), (7, .int .i64 (i : Int))] (fun _ => by kernel_rfl) ?_
  refine WL.done rfl ?_
  refine QX.then_normal (hK19 _ _ ?_)
  refine WC.test_at 10 (decide ((i : Int) < (ps.length : Int))) rfl (fun t20b => ?_) (fun t20b => ?_)
  · -- (i : Int) < (ps.length : Int): true
    have t20 : (i : Int) < (ps.length : Int) := by have q_ := of_decide_eq_true t20b; omega
    refine WC.cond_true rfl ?_
    refine WC.skip ?_
    refine QX.then_normal (hK17 _ _ ?_)
    refine WC.seq (fun K21 hK22 => ?_)
    refine WC.block ?_
    refine WC.seq (fun K23 hK24 => ?_)
    refine WC.region ?_
    refine WL.runs 2 [(14, .int .i64 (i : Int)), (13, .slice A ps.length c)] (fun _ => by kernel_rfl) ?_
    obtain ⟨e25, he26⟩ := get_some (xs := ps) (i := i) (by omega)
    obtain ⟨b27, o29, hA28, hc30⟩ := hrd.at_ _ _ he26
    refine WL.index A ps.length c 15 .i64 (i : Int) b27 o29 i 2 (by kernel_rfl) hA28 (by omega) (by omega) (o29 + i * 2) (by first | (simp; done) | omega) ?_
    refine WL.runs 1 [(16, .pointer (some ⟨b27, o29 + i * 2, none⟩))] (fun _ => by kernel_rfl) ?_
    refine WL.load 9 (.pointer (some ⟨b27, o29 + i * 2, none⟩)) (.string e25.1) 17 (by kernel_rfl) (run_load1 rfl (by simpa [Nat.add_assoc] using hC15.fr.cell (hc30 0 _ rfl) (by simp))) ?_
    refine WL.runs 2 [(19, .bool (!(e25.1.toList == key.toList))), (18, .string key)] (fun _ => by kernel_rfl) ?_
    refine WL.recast (show (.bool (!(e25.1.toList == key.toList)) : Value) = .bool (!decide (e25.1 = key)) from by rw [str_eql]) ?_
    refine WL.done rfl ?_
    refine QX.then_normal (hK24 _ _ ?_)
    refine WC.test_at 19 (!decide (e25.1 = key)) rfl (fun t31b => ?_) (fun t31b => ?_)
    · -- e25.1 ≠ key: true
      have t31 : e25.1 ≠ key := by simpa using t31b
      refine WC.cond_true rfl ?_
      refine WC.region ?_
      refine WL.runs 3 [(22, .int .i64 (i : Int)), (21, .slice A ps.length c), (20, .slice A5 n5 c5)] (fun _ => by kernel_rfl) ?_
      refine WL.index A ps.length c 23 .i64 (i : Int) b27 o29 i 2 (by kernel_rfl) hA28 (by omega) (by omega) (o29 + i * 2) (by first | (simp; done) | omega) ?_
      refine WL.load 65 (.pointer (some ⟨b27, o29 + i * 2, none⟩)) (.agg #[.string e25.1, .slice e25.2.a e25.2.n e25.2.c]) 24 (by kernel_rfl) (run_rdN (l := [.string e25.1, .slice e25.2.a e25.2.n e25.2.c]) rfl rfl (fun j u hu => by have hq_ := hC15.fr.cell (hc30 j u hu) (by simp); simpa [Nat.add_assoc] using hq_)) ?_
      refine WL.newM hC15 (fun b => .slice (some ⟨b, 0, none⟩) 1 1) (.cells #[.string e25.1, .slice e25.2.a e25.2.n e25.2.c] 65) 25 (fun _ => by kernel_rfl) (fun g36 w37 hb40 hF38 hC39 => ?_)
      have ho41 := own_fr hleft5 hF38 (by simp)
      obtain ⟨v42, w43, hr44, ho45, hF46, hC47, hnil48, hsub49⟩ := app_run Try.prog hC39 0 (v := .slice A5 n5 c5) rfl 50 50 65 2 40 n5 1 1 (some ⟨g36, 0, none⟩) rfl ho41 [.string e25.1, .slice e25.2.a e25.2.n e25.2.c] rfl (srcOk.blk 1 (hC39.get 0 rfl)) rfl (by simp only [maxLen]; omega) (by omega)
      have ho53 := own_snoc (enc := cellP) (ys := (outK (ps.take i) key)) (e25.1, e25.2) ho45
      obtain ⟨A50, c51, rfl, hle52⟩ := own_form ho53
      refine WL.sem (Builtin.append_ #[50, 50] 50 #[.slice A5 n5 c5, .slice (some ⟨g36, 0, none⟩) 1 1]) 26 (.slice A50 (n5 + 1) c51) (by kernel_rfl) hr44 ?_
      refine WL.runs 1 [(5, .slice A50 (n5 + 1) c51)] (fun _ => by kernel_rfl) ?_
      refine WL.done rfl ?_
      refine QX.block_normal ?_
      refine QX.then_normal (hK22 _ _ ?_)
      refine WC.region ?_
      refine WL.runs 2 [(12, .int .i64 (IntKind.i64.wrap ((i : Int) + 1))), (11, .int .i64 (i : Int))] (fun _ => by kernel_rfl) ?_
      refine WL.recast (show (.int .i64 (IntKind.i64.wrap ((i : Int) + 1)) : Value) = .int .i64 ((i : Int) + 1) from by rw [wrap_in_i64 ((i : Int) + 1) (by omega) (by omega)]) ?_
      refine WL.runs 1 [(6, .int .i64 ((i : Int) + 1))] (fun _ => by kernel_rfl) ?_
      refine WL.done rfl ?_
      refine QX.then_normal ?_
      have hC54 := hC47.pick [] [0] rfl rfl
      refine fun a_ ha_ => hK11 _ _ _ ?_ ⟨i + 1, A50, n5 + 1, c51, rfl, rfl, hC54, by rw [outK_snoc key he26, if_neg (str_ne_of3 t31b)]; exact ho53, by omega⟩ a_ (ha_.weaken (sub_of ⟨rfl, rfl, rfl, rfl, trivial⟩))
      omega
    · -- e25.1 ≠ key: false
      have t31 : e25.1 = key := by simpa using t31b
      refine WC.cond_false rfl ?_
      refine WC.skip ?_
      refine QX.block_normal ?_
      refine QX.then_normal (hK22 _ _ ?_)
      refine WC.region ?_
      refine WL.runs 2 [(12, .int .i64 (IntKind.i64.wrap ((i : Int) + 1))), (11, .int .i64 (i : Int))] (fun _ => by kernel_rfl) ?_
      refine WL.recast (show (.int .i64 (IntKind.i64.wrap ((i : Int) + 1)) : Value) = .int .i64 ((i : Int) + 1) from by rw [wrap_in_i64 ((i : Int) + 1) (by omega) (by omega)]) ?_
      refine WL.runs 1 [(6, .int .i64 ((i : Int) + 1))] (fun _ => by kernel_rfl) ?_
      refine WL.done rfl ?_
      refine QX.then_normal ?_
      have hC55 := hC15.pick [] [0] rfl rfl
      refine fun a_ ha_ => hK11 _ _ _ ?_ ⟨i + 1, A5, n5, c5, rfl, rfl, hC55, by rw [outK_snoc key he26, if_pos (str_eq_of3 t31b), List.append_nil]; exact hleft5, by omega⟩ a_ (ha_.weaken (sub_of ⟨rfl, rfl, rfl, rfl, trivial⟩))
      omega
  · -- (i : Int) < (ps.length : Int): false
    have t20 : (ps.length : Int) ≤ (i : Int) := by have q_ := of_decide_eq_false t20b; omega
    refine WC.cond_false rfl ?_
    refine WC.exit ?_
    refine QX.then_exit ?_
    refine QX.then_exit ?_
    refine QX.block_hit ?_
    refine QX.then_normal (hK6 _ _ ?_)
    refine WC.seq (fun K56 hK57 => ?_)
    refine WC.region ?_
    refine WL.runs 2 [(4, .slice A5 n5 c5), (27, .slice A5 n5 c5)] (fun _ => by kernel_rfl) ?_
    refine WL.done rfl ?_
    refine QX.then_normal (hK57 _ _ ?_)
    refine WC.ret ?_
    refine (hret _ _ _ rfl ?_).1
    clear hN hret hret' hK57 hK19 hK17 hK8 hK6 hK4 hK2
    have hk2_ : ps.take i = ps := take_all_of (by omega)
    have ho_ := hleft5
    rw [hk2_] at ho_ hcn5_
    subst hcn5_
    exact ⟨_, rfl, hC15.fr, own_base ho_ (newF_of hC15 0 rfl (by simp) (by simp))⟩

theorem RFind_n (A : Option Addr) (n c : Nat) (ps : Mt) (key : ByteArray) (w : World) (hrd : Rd w 2 cellP A ps) (hn : ps.length = n) (hl1 : ps.length ≤ 9223372036854775807) : Calls Try.prog 40 #[.slice A n c, .string key] w fun e w' => ∃ r : Int, e = .returned (.int .i64 r) ∧ Fr w w' [] ∧ FindP ps key r := by subst hn; exact RFind_ct A c ps key w hrd hl1
theorem RWithout_n (A : Option Addr) (n c : Nat) (ps : Mt) (key : ByteArray) (w : World) (hrd : Rd w 2 cellP A ps) (hn : ps.length = n) (hl2 : ps.length ≤ 67108864) : Calls Try.prog 38 #[.slice A n c, .string key] w fun e w' => ∃ v, e = .returned v ∧ Fr w w' [] ∧ w'.ownsRow w.heap.size 65 2 v (outK ps key).length ((outK ps key).flatMap cellP) := by subst hn; exact RWithout_ct A c ps key w hrd (by omega) hl2
theorem find_pos {ps : Mt} {k : ByteArray} {r : Int} (h : FindP ps k r) (h0 : 0 ≤ r) : (lookL (ct ps) k).isSome = true := by
  cases h with
  | none _ => omega
  | some i e he hk hb => rw [ct_look, find_look he hk hb]; rfl
theorem find_neg {ps : Mt} {k : ByteArray} {r : Int} (h : FindP ps k r) (h0 : r < 0) : lookL (ct ps) k = none := by
  cases h with
  | none h => rw [ct_look, none_look h]; rfl
  | some i e he hk hb => omega
theorem run_lssS {P : Program} {t : TypeId} {X Y : Operand} {a b : ByteArray} {w : World} : Sem.run P (do eqGuard .lss t X Y (.string a) (.string b); binOp .lss t (.string a) (.string b)) w = .ok (.bool (ltK a b)) w := by
  cases X <;> cases Y <;> rfl
theorem RGet_ct (R : List Nat) (p : Nat) (ps qs : Mt) (size : Int) (key : ByteArray) (w : World) (ht : docAt w R p ps qs size) (hu1 : usedL (ct ps) ≤ 67108864) (hl1 : ps.length ≤ 67108864) (hl2 : qs.length ≤ 67108864) : Calls Try.prog 29 #[.pointer (some ⟨p, 0, none⟩), .string key] w fun e w' => ∃ (r : BRow) (er : Int), e = .returned (.tuple #[.slice r.a r.n r.c, .int .i64 er]) ∧ Fr w w' [] ∧ ((er = 6 ∧ r = zeroB ∧ lookL (ct ps) key = none) ∨ (er = 0 ∧ lookL (ct ps) key = some r.xs ∧ rowAt w r ∧ ∀ x ∈ rblk r, x ∈ R)) := by
  refine enterD (n := 23) Try.func29 rfl rfl (Nat.le_of_ble_eq_true rfl) ?_
  intro Q0 hN hret hret'
  have ht0 := ht
  obtain ⟨A1, c1, A2, c2, hp_, hr1_, hr2_, hi1_, hi2_, hb1_, hb2_, hpR_, hlt_⟩ := ht
  have hC := Cx.openR hp_ hlt_ hpR_
  refine WC.seq (fun K1 hK2 => ?_)
  refine WC.region ?_
  refine WL.runs 2 [(5, .int .i64 0), (4, .slice none 0 0)] (fun _ => by kernel_rfl) ?_
  refine WL.done rfl ?_
  refine QX.then_normal (hK2 _ _ ?_)
  refine WC.seq (fun K3 hK4 => ?_)
  refine WC.region ?_
  refine WL.runs 3 [(9, .pointer (some ⟨p, 0, none⟩)), (8, .pointer (some ⟨p, 0, none⟩)), (7, .pointer (some ⟨p, 0, none⟩))] (fun _ => by kernel_rfl) ?_
  refine WL.load 50 (.pointer (some ⟨p, 0, none⟩)) (.slice A1 ps.length c1) 10 (by kernel_rfl) (run_ld (hC.get 0 rfl) rfl) ?_
  refine WL.runs 1 [(11, .string key)] (fun _ => by kernel_rfl) ?_
  refine WL.call rfl rfl rfl rfl rfl (by kernel_rfl) (RFind_n A1 ps.length c1 ps key w (own_rd hr1_ cellP_len (by decide)) (own_count cellP_len (by decide) hr1_) (by omega)) ?_
  rintro _ w7 ⟨r5, rfl, hF6, hfr9⟩
  have hC8 := hC.call hF6
  have ho16 := own_fr hr1_ hF6 (by simp)
  have ho17 := own_fr hr2_ hF6 (by simp)
  have hf18 := rowsIn_fr hi1_ hF6 (by simp)
  have hf19 := rowsIn_fr hi2_ hF6 (by simp)
  have hf20 := SameF.fr (SameF.refl w _ hlt_) hF6 (by simp)
  rcases hfr9 with hnn15 | ⟨i10, x11, hx12, hk13, hpr14⟩
  · -- found: False
    refine ⟨_, rfl, ?_⟩
    refine WL.runs 1 [(6, .int .i64 (-1))] (fun _ => by kernel_rfl) ?_
    refine WL.done rfl ?_
    refine QX.then_normal (hK4 _ _ ?_)
    refine WC.seq (fun K21 hK22 => ?_)
    refine WC.seq (fun K23 hK24 => ?_)
    refine WC.region ?_
    refine WL.runs 2 [(14, .bool true), (13, .int .i64 (-1))] (fun _ => by kernel_rfl) ?_
    refine WL.done rfl ?_
    refine QX.then_normal (hK24 _ _ ?_)
    refine WC.cond_true rfl ?_
    refine WC.seq (fun K25 hK26 => ?_)
    refine WC.region ?_
    refine WL.runs 2 [(5, .int .i64 6), (4, .slice none 0 0)] (fun _ => by kernel_rfl) ?_
    refine WL.done rfl ?_
    refine QX.then_normal (hK26 _ _ ?_)
    refine WC.ret ?_
    refine QX.then_ret ?_
    refine (hret _ _ _ rfl ?_).1
    clear hN hret hret' hK26 hK24 hK22 hK4 hK2
    exact ⟨zeroB, 6, rfl, (hC8.fr.shrink (by intro x hx; rcases List.mem_cons.1 hx with rfl | hx; exact (hC8.get 0 rfl).trans hp_.symm; exact (hf20 x hx).2)), .inl ⟨rfl, rfl, by rw [ct_look, none_look hnn15]; rfl⟩⟩
  · -- found: True
    have hil_ := (List.getElem?_eq_some_iff.1 hx12).1
    refine ⟨_, rfl, ?_⟩
    refine WL.runs 1 [(6, .int .i64 (i10 : Int))] (fun _ => by kernel_rfl) ?_
    refine WL.done rfl ?_
    refine QX.then_normal (hK4 _ _ ?_)
    refine WC.seq (fun K27 hK28 => ?_)
    refine WC.seq (fun K29 hK30 => ?_)
    refine WC.region ?_
    refine WL.runs 2 [(14, .bool (decide ((i10 : Int) < 0))), (13, .int .i64 (i10 : Int))] (fun _ => by kernel_rfl) ?_
    refine WL.done rfl ?_
    refine QX.then_normal (hK30 _ _ ?_)
    refine WC.know 14 (.bool (decide ((i10 : Int) < 0))) (.bool false) rfl (congrArg Value.bool (by exact decide_eq_false (by omega))) ?_
    refine WC.cond_false rfl ?_
    refine WC.skip ?_
    refine QX.then_normal (hK28 _ _ ?_)
    refine WC.seq (fun K31 hK32 => ?_)
    refine WC.region ?_
    refine WL.runs 3 [(17, .pointer (some ⟨p, 0, none⟩)), (16, .pointer (some ⟨p, 0, none⟩)), (15, .pointer (some ⟨p, 0, none⟩))] (fun _ => by kernel_rfl) ?_
    refine WL.load 50 (.pointer (some ⟨p, 0, none⟩)) (.slice A1 ps.length c1) 18 (by kernel_rfl) (run_ld (hC8.get 0 rfl) rfl) ?_
    refine WL.runs 1 [(19, .int .i64 (i10 : Int))] (fun _ => by kernel_rfl) ?_
    have hn37 := own_count cellP_len (by decide) ho16
    obtain ⟨e33, he34⟩ := get_some (xs := ps) (i := i10) (by omega)
    obtain ⟨b35, hA36⟩ := own_addr (by decide) cellP_len ho16 he34
    refine WL.index A1 ps.length c1 20 .i64 (i10 : Int) b35 0 i10 2 (by kernel_rfl) hA36 (by omega) (by omega) (i10 * 2) (by first | (simp; done) | omega) ?_
    refine WL.runs 1 [(21, .pointer (some ⟨b35, i10 * 2 + 1, none⟩))] (fun _ => by kernel_rfl) ?_
    refine WL.load 22 (.pointer (some ⟨b35, i10 * 2 + 1, none⟩)) (.slice e33.2.a e33.2.n e33.2.c) 22 (by kernel_rfl) (run_load1 rfl (by simpa [Nat.add_assoc] using Rd.cell (own_rd ho16 cellP_len (by decide)) hA36 he34 1 _ rfl)) ?_
    refine WL.runs 2 [(5, .int .i64 0), (4, .slice e33.2.a e33.2.n e33.2.c)] (fun _ => by kernel_rfl) ?_
    refine WL.done rfl ?_
    refine QX.then_normal (hK32 _ _ ?_)
    refine WC.ret ?_
    refine (hret _ _ _ rfl ?_).1
    clear hN hret hret' hK32 hK30 hK28 hK4 hK2
    have hex_ := Option.some.inj (hx12.symm.trans he34)
    subst hex_
    exact ⟨_, 0, rfl, (hC8.fr.shrink (by intro x hx; rcases List.mem_cons.1 hx with rfl | hx; exact (hC8.get 0 rfl).trans hp_.symm; exact (hf20 x hx).2)), .inr ⟨rfl, by rw [ct_look, find_look hx12 hk13 hpr14]; rfl, hi1_.1 _ (List.mem_of_getElem? hx12), fun x_ hx_ => hi1_.2 x_ (rfoot_mem (List.mem_of_getElem? hx12) hx_)⟩⟩

inductive RPut (ps : Mt) (size : Int) (key : ByteArray) (r : BRow) : Mt → Int → Prop
  | form : key.size < 1 ∨ 64 < key.size → RPut ps size key r ps 9
  | full : 1 ≤ key.size → key.size ≤ 64 → size < ((usedL (ct (outK ps key)) + key.size + r.xs.length : Nat) : Int) → RPut ps size key r ps 5
  | ok (ps2 : Mt) : 1 ≤ key.size → key.size ≤ 64 → ((usedL (ct (outK ps key)) + key.size + r.xs.length : Nat) : Int) ≤ size → ct ps2 = insK (key, r.xs) (outK (ct ps) key) → RPut ps size key r ps2 0
theorem Rd.frE {α : Type} {w w' : World} {sz : Nat} {enc : α → List Value} {A : Option Addr} {xs : List α} {G : List Nat} (h : Rd w sz enc A xs) (hf : Fr w w' G) (hd : xs ≠ [] → ∀ b off, A = some ⟨b, off, none⟩ → b ∉ G) : Rd w' sz enc A xs := by
  cases xs with
  | nil => exact ⟨fun i y hy => by simp at hy⟩
  | cons a r => exact Rd.frN h hf (hd (by simp))
set_option maxHeartbeats 4000000 in
theorem RPut_ct (R : List Nat) (p : Nat) (ps qs : Mt) (size : Int) (key : ByteArray) (r : BRow) (w : World) (ht : docAt w R p ps qs size) (hu1 : usedL (ct ps) ≤ 67108864) (hl1 : ps.length ≤ 67108864) (hl2 : qs.length ≤ 67108864) (hrr : rowAt w r) (hrn : r.n ≤ 1099511627776) (hrR : r.xs ≠ [] → ∀ x ∈ rblk r, x ∉ p :: R) : Calls Try.prog 23 #[.pointer (some ⟨p, 0, none⟩), .string key, .slice r.a r.n r.c] w fun e w' => ∃ (ps2 : Mt) (R2 : List Nat) (er : Int), e = .returned (.int .i64 er) ∧ Fr w w' (p :: R) ∧ docAt w' R2 p ps2 qs size ∧ (∀ x ∈ R2, x ∈ R ∨ w.heap.size ≤ x) ∧ RPut ps size key r ps2 er := by
  refine enterD (n := 82) Try.func23 rfl rfl (Nat.le_of_ble_eq_true rfl) ?_
  intro Q0 hN hret hret'
  have hrl_ := hrr.len
  have ht0 := ht
  obtain ⟨A1, c1, A2, c2, hp_, hr1_, hr2_, hi1_, hi2_, hb1_, hb2_, hpR_, hlt_⟩ := ht
  have hC := Cx.openR hp_ hlt_ hpR_
  refine WC.seq (fun K1 hK2 => ?_)
  refine WC.region ?_
  refine WL.runs 1 [(6, .int .i64 0)] (fun _ => by kernel_rfl) ?_
  refine WL.done rfl ?_
  refine QX.then_normal (hK2 _ _ ?_)
  refine WC.seq (fun K3 hK4 => ?_)
  refine WC.seq (fun K5 hK6 => ?_)
  refine WC.region ?_
  refine WL.runs 4 [(15, .bool (decide ((key.size : Int) < 1))), (14, .bool (decide ((key.size : Int) < 1))), (13, .int .i64 (key.size : Int)), (12, .string key)] (fun _ => by kernel_rfl) ?_
  refine WL.test_at 15 (decide ((key.size : Int) < 1)) rfl (fun t7b => ?_) (fun t7b => ?_)
  · -- (key.size : Int) < 1: true
    have t7 : (key.size : Int) < 1 := by have q_ := of_decide_eq_true t7b; omega
    refine WL.runs 4 [(19, .bool true), (18, undef), (17, undef), (16, undef)] (fun _ => by kernel_rfl) ?_
    refine WL.done rfl ?_
    refine QX.then_normal (hK6 _ _ ?_)
    refine WC.cond_true rfl ?_
    refine WC.seq (fun K8 hK9 => ?_)
    refine WC.region ?_
    refine WL.runs 1 [(6, .int .i64 9)] (fun _ => by kernel_rfl) ?_
    refine WL.done rfl ?_
    refine QX.then_normal (hK9 _ _ ?_)
    refine WC.ret ?_
    refine QX.then_ret ?_
    refine (hret _ _ _ rfl ?_).1
    clear hN hret hret' hK9 hK6 hK4 hK2
    exact ⟨_, R, 9, rfl, hC.fr, doc_mk (hC.get 0 rfl) hr1_ hr2_ hi1_ hi2_ hb1_ hb2_ hpR_ (fun x_ hx_ => Nat.lt_of_lt_of_le (hlt_ x_ hx_) hC.fr.size), (fun x_ h_ => .inl h_), .form (by omega)⟩
  · -- (key.size : Int) < 1: false
    have t7 : (1 : Int) ≤ (key.size : Int) := by have q_ := of_decide_eq_false t7b; omega
    refine WL.runs 4 [(19, .bool (decide ((key.size : Int) > 64))), (18, .bool (decide ((key.size : Int) > 64))), (17, .int .i64 (key.size : Int)), (16, .string key)] (fun _ => by kernel_rfl) ?_
    refine WL.done rfl ?_
    refine QX.then_normal (hK6 _ _ ?_)
    refine WC.test_at 19 (decide ((key.size : Int) > 64)) rfl (fun t10b => ?_) (fun t10b => ?_)
    · -- (key.size : Int) > 64: true
      have t10 : (64 : Int) < (key.size : Int) := by have q_ := of_decide_eq_true t10b; omega
      refine WC.cond_true rfl ?_
      refine WC.seq (fun K11 hK12 => ?_)
      refine WC.region ?_
      refine WL.runs 1 [(6, .int .i64 9)] (fun _ => by kernel_rfl) ?_
      refine WL.done rfl ?_
      refine QX.then_normal (hK12 _ _ ?_)
      refine WC.ret ?_
      refine QX.then_ret ?_
      refine (hret _ _ _ rfl ?_).1
      clear hN hret hret' hK12 hK6 hK4 hK2
      exact ⟨_, R, 9, rfl, hC.fr, doc_mk (hC.get 0 rfl) hr1_ hr2_ hi1_ hi2_ hb1_ hb2_ hpR_ (fun x_ hx_ => Nat.lt_of_lt_of_le (hlt_ x_ hx_) hC.fr.size), (fun x_ h_ => .inl h_), .form (by omega)⟩
    · -- (key.size : Int) > 64: false
      have t10 : (key.size : Int) ≤ 64 := by have q_ := of_decide_eq_false t10b; omega
      refine WC.cond_false rfl ?_
      refine WC.skip ?_
      refine QX.then_normal (hK4 _ _ ?_)
      refine WC.seq (fun K13 hK14 => ?_)
      refine WC.region ?_
      refine WL.runs 3 [(22, .pointer (some ⟨p, 0, none⟩)), (21, .pointer (some ⟨p, 0, none⟩)), (20, .pointer (some ⟨p, 0, none⟩))] (fun _ => by kernel_rfl) ?_
      refine WL.load 50 (.pointer (some ⟨p, 0, none⟩)) (.slice A1 ps.length c1) 23 (by kernel_rfl) (run_ld (hC.get 0 rfl) rfl) ?_
      refine WL.runs 1 [(24, .string key)] (fun _ => by kernel_rfl) ?_
      refine WL.call rfl rfl rfl rfl rfl (by kernel_rfl) (RWithout_n A1 ps.length c1 ps key w (own_rd hr1_ cellP_len (by decide)) (own_count cellP_len (by decide) hr1_) (by omega)) ?_
      rintro _ w17 ⟨v_, rfl, hF16, ho15⟩
      have hC18 := hC.callN hF16 (own_ge ho15) (own_lt ho15)
      obtain ⟨A19, c20, rfl, hle21⟩ := own_form ho15
      have ho23 := own_base (b' := 0) ho15 (fun _ _ => Nat.zero_le _)
      refine ⟨_, rfl, ?_⟩
      have ho24 := own_fr hr1_ hF16 (by simp)
      have ho25 := own_fr hr2_ hF16 (by simp)
      have hf26 := rowsIn_fr hi1_ hF16 (by simp)
      have hf27 := rowsIn_fr hi2_ hF16 (by simp)
      refine WL.runs 1 [(7, .slice A19 ((outK ps key).length) c20)] (fun _ => by kernel_rfl) ?_
      refine WL.done rfl ?_
      refine QX.then_normal (hK14 _ _ ?_)
      refine WC.seq (fun K28 hK29 => ?_)
      refine WC.seq (fun K30 hK31 => ?_)
      refine WC.drawC hC18 [] (by kernel_rfl) (fun w32 hF33 hC34 hS35 => ?_)
      have ho36 := own_fr ho24 hF33 (by simp)
      have ho37 := own_fr ho25 hF33 (by simp)
      have hf38 := rowsIn_fr hf26 hF33 (by simp)
      have hf39 := rowsIn_fr hf27 hF33 (by simp)
      have ho40 := own_fr ho23 hF33 (by simp)
      refine WD.pure (NoPanic.then (NoPanic.then hN)) 0 26 (.slice A19 ((outK ps key).length) c20) (by kernel_rfl) (fun _ => by kernel_rfl) hS35 ?_
      refine WD.pure (NoPanic.then (NoPanic.then hN)) 2 28 (.string key) (by kernel_rfl) (fun _ => by kernel_rfl) hS35 ?_
      refine WD.pure (NoPanic.then (NoPanic.then hN)) 3 29 (.int .i64 (key.size : Int)) (by kernel_rfl) (fun _ => by kernel_rfl) hS35 ?_
      refine WD.pure (NoPanic.then (NoPanic.then hN)) 5 31 (.slice r.a r.n r.c) (by kernel_rfl) (fun _ => by kernel_rfl) hS35 ?_
      refine WD.pure (NoPanic.then (NoPanic.then hN)) 6 32 (.int .i64 (r.n : Int)) (by kernel_rfl) (fun _ => by kernel_rfl) hS35 ?_
      refine WD.pure (NoPanic.then (NoPanic.then hN)) 8 34 (.pointer (some ⟨p, 0, none⟩)) (by kernel_rfl) (fun _ => by kernel_rfl) hS35 ?_
      refine WD.pure (NoPanic.then (NoPanic.then hN)) 9 35 (.pointer (some ⟨p, 0, none⟩)) (by kernel_rfl) (fun _ => by kernel_rfl) hS35 ?_
      refine WD.pure (NoPanic.then (NoPanic.then hN)) 10 36 (.pointer (some ⟨p, 2, none⟩)) (by kernel_rfl) (fun _ => by kernel_rfl) hS35 ?_
      refine WD.load (NoPanic.then (NoPanic.then hN)) 11 3 (.pointer (some ⟨p, 2, none⟩)) (.int .i64 size) 37 (by kernel_rfl) (by kernel_rfl) (fun _ hS_ => run_ld (Fr.has hS_ (hC34.get 0 rfl) (by simp)) rfl) hS35 ?_
      have hou_ := used_outK ps key
      have hol_ := outK_len ps key
      refine WD.call 1 (by kernel_rfl) rfl rfl rfl rfl rfl (by kernel_rfl) (RUsed_ct A19 c20 (outK ps key) R w32 (own_rd ho40 cellP_len (by decide)) (rowsIn_sub hf38 (fun p_ h_ => (mem_outK.1 h_).1)) (by omega) (by omega)) ?_
      rintro _ w42 ⟨rfl, hF41⟩
      have hS44 := hS35.trans hF41 (by simp)
      refine ⟨_, rfl, hS44, ?_⟩
      have hC43 := hC34.call hF41
      have ho45 := own_fr ho36 hF41 (by simp)
      have ho46 := own_fr ho37 hF41 (by simp)
      have hf47 := rowsIn_fr hf38 hF41 (by simp)
      have hf48 := rowsIn_fr hf39 hF41 (by simp)
      have ho49 := own_fr ho40 hF41 (by simp)
      refine WD.pure (NoPanic.then (NoPanic.then hN)) 4 30 (.int .i64 (IntKind.i64.wrap ((usedL (ct (outK ps key)) : Int) + (key.size : Int)))) (by kernel_rfl) (fun _ => by kernel_rfl) hS44 ?_
      refine WD.recast (show (.int .i64 (IntKind.i64.wrap ((usedL (ct (outK ps key)) : Int) + (key.size : Int))) : Value) = .int .i64 ((usedL (ct (outK ps key)) : Int) + (key.size : Int)) from by rw [wrap_in_i64 ((usedL (ct (outK ps key)) : Int) + (key.size : Int)) (by omega) (by omega)]) ?_
      refine WD.pure (NoPanic.then (NoPanic.then hN)) 7 33 (.int .i64 (IntKind.i64.wrap (((usedL (ct (outK ps key)) : Int) + (key.size : Int)) + (r.n : Int)))) (by kernel_rfl) (fun _ => by kernel_rfl) hS44 ?_
      refine WD.recast (show (.int .i64 (IntKind.i64.wrap (((usedL (ct (outK ps key)) : Int) + (key.size : Int)) + (r.n : Int))) : Value) = .int .i64 (((usedL (ct (outK ps key)) : Int) + (key.size : Int)) + (r.n : Int)) from by rw [wrap_in_i64 (((usedL (ct (outK ps key)) : Int) + (key.size : Int)) + (r.n : Int)) (by omega) (by omega)]) ?_
      refine WD.pure (NoPanic.then (NoPanic.then hN)) 12 38 (.bool (decide ((((usedL (ct (outK ps key)) : Int) + (key.size : Int)) + (r.n : Int)) > size))) (by kernel_rfl) (fun _ => by kernel_rfl) hS44 ?_
      refine WD.done (by kernel_rfl) ?_
      refine QX.then_normal (hK31 _ _ ?_)
      refine WC.test_at 38 (decide ((((usedL (ct (outK ps key)) : Int) + (key.size : Int)) + (r.n : Int)) > size)) rfl (fun t50b => ?_) (fun t50b => ?_)
      · -- (((usedL (ct (outK ps key)) : Int) + (key.size : Int)) + (r.n : Int)) > size: true
        have t50 : size < (((usedL (ct (outK ps key)) : Int) + (key.size : Int)) + (r.n : Int)) := by have q_ := of_decide_eq_true t50b; omega
        refine WC.cond_true rfl ?_
        refine WC.seq (fun K51 hK52 => ?_)
        refine WC.region ?_
        refine WL.runs 1 [(6, .int .i64 5)] (fun _ => by kernel_rfl) ?_
        refine WL.done rfl ?_
        refine QX.then_normal (hK52 _ _ ?_)
        refine WC.ret ?_
        refine QX.then_ret ?_
        refine (hret _ _ _ rfl ?_).1
        clear hN hret hret' hK52 hK31 hK29 hK14 hK6 hK4 hK2
        exact ⟨_, R, 5, rfl, hC43.fr, doc_mk (hC43.get 0 rfl) ho45 ho46 hf47 hf48 hb1_ hb2_ hpR_ (fun x_ hx_ => Nat.lt_of_lt_of_le (hlt_ x_ hx_) hC43.fr.size), (fun x_ h_ => .inl h_), .full (by omega) (by omega) (by rw [hrr.len]; omega)⟩
      · -- (((usedL (ct (outK ps key)) : Int) + (key.size : Int)) + (r.n : Int)) > size: false
        have t50 : (((usedL (ct (outK ps key)) : Int) + (key.size : Int)) + (r.n : Int)) ≤ size := by have q_ := of_decide_eq_false t50b; omega
        refine WC.cond_false rfl ?_
        refine WC.skip ?_
        refine QX.then_normal (hK29 _ _ ?_)
        refine WC.seq (fun K53 hK54 => ?_)
        refine WC.region ?_
        refine WL.runs 1 [(8, .slice none 0 0)] (fun _ => by kernel_rfl) ?_
        refine WL.done rfl ?_
        refine QX.then_normal (hK54 _ _ ?_)
        refine WC.seq (fun K55 hK56 => ?_)
        refine WC.region ?_
        refine WL.runs 1 [(9, .bool false)] (fun _ => by kernel_rfl) ?_
        refine WL.done rfl ?_
        refine QX.then_normal (hK56 _ _ ?_)
        refine WC.seq (fun K57 hK58 => ?_)
        refine WC.region ?_
        refine WL.runs 1 [(39, .string key)] (fun _ => by kernel_rfl) ?_
        refine WL.newM hC43 (fun b => .slice (some ⟨b, 0, none⟩) 0 0) (.cells #[] 5) 40 (fun _ => by kernel_rfl) (fun g59 w60 hb63 hF61 hC62 => ?_)
        have ho64 := own_fr ho45 hF61 (by simp)
        have ho65 := own_fr ho46 hF61 (by simp)
        have hf66 := rowsIn_fr hf47 hF61 (by simp)
        have hf67 := rowsIn_fr hf48 hF61 (by simp)
        have ho68 := own_fr ho49 hF61 (by simp)
        refine WL.runs 1 [(41, .slice r.a r.n r.c)] (fun _ => by kernel_rfl) ?_
        have ho70 : World.ownsRow w60 0 5 1 (.slice (some ⟨g59, 0, none⟩) 0 0) 0 [] := own_of_blk (Nat.zero_le _) (hC62.get 1 rfl) (Nat.le_refl _) (Nat.zero_le _) (by simp) rfl
        have hC69 := hC62.toF 1 rfl
        obtain ⟨v72, w73, hr74, ho75, hF76, hC77, hnil78, hsub79⟩ := app_run Try.prog hC69 2 (v := .slice (some ⟨g59, 0, none⟩) 0 0) rfl 22 22 5 1 1 0 r.n r.c r.a rfl ho70 (r.xs.flatMap (Go.Tw.encI .u8)) (flat_len_n (Go.Tw.encI_len _) (by first | rfl | assumption | (simp; done) | (simp; omega))) (Rd.src_n (Rd.frE hrr.rd hC69.fr (fun hne_ b_ off_ e_ => hrR hne_ b_ (blk_in e_))) (Go.Tw.encI_len _) (by decide) (by first | rfl | assumption | (simp; done) | (simp; omega))) (flat_one (Go.Tw.encI_one _) _) (by simp only [maxLen]; omega) (by omega)
        have ho83 := own_app (enc := (Go.Tw.encI .u8)) (ys := []) (zs := r.xs) ho75
        obtain ⟨A80, c81, rfl, hle82⟩ := own_form ho83
        refine WL.sem (Builtin.append_ #[22, 22] 22 #[.slice (some ⟨g59, 0, none⟩) 0 0, .slice r.a r.n r.c]) 42 (.slice A80 (0 + r.n) c81) (by kernel_rfl) hr74 ?_
        have ho84 := own_fr ho64 hF76 (fun x_ hx_ => (hC69.disj 0 2 rfl rfl (by decide)) x_ (hb1_ x_ hx_))
        have ho85 := own_fr ho65 hF76 (fun x_ hx_ => (hC69.disj 0 2 rfl rfl (by decide)) x_ (hb2_ x_ hx_))
        have hf86 := rowsIn_fr hf66 hF76 (hC69.disj 0 2 rfl rfl (by decide))
        have hf87 := rowsIn_fr hf67 hF76 (hC69.disj 0 2 rfl rfl (by decide))
        have ho88 := own_fr ho68 hF76 (hC69.disj 1 2 rfl rfl (by decide))
        skip
        refine WL.runs 1 [(43, .agg #[.string key, .slice A80 (0 + r.n) c81])] (fun _ => by kernel_rfl) ?_
        refine WL.newM hC77 (fun b => .pointer (some ⟨b, 0, none⟩)) (.cells #[.string ⟨#[]⟩, .slice none 0 0] 65) 10 (fun _ => by kernel_rfl) (fun g89 w90 hb93 hF91 hC92 => ?_)
        have ho94 := own_fr ho84 hF91 (by simp)
        have ho95 := own_fr ho85 hF91 (by simp)
        have hf96 := rowsIn_fr hf86 hF91 (by simp)
        have hf97 := rowsIn_fr hf87 hF91 (by simp)
        have ho98 := own_fr ho88 hF91 (by simp)
        have ho99 := own_fr ho83 hF91 (by simp)
        refine WL.storeM (c' := #[.string key, .slice A80 (0 + r.n) c81]) hC92 1 65 g89 0 (.agg #[.string key, .slice A80 (0 + r.n) c81]) (by kernel_rfl) rfl (by kernel_rfl) (fun w100 hF102 hC103 => ?_)
        have ho104 := own_fr ho94 hF102 (fun x_ hx_ => (hC92.apartM 0 1 rfl rfl) x_ (hb1_ x_ hx_))
        have ho105 := own_fr ho95 hF102 (fun x_ hx_ => (hC92.apartM 0 1 rfl rfl) x_ (hb2_ x_ hx_))
        have hf106 := rowsIn_fr hf96 hF102 (hC92.apartM 0 1 rfl rfl)
        have hf107 := rowsIn_fr hf97 hF102 (hC92.apartM 0 1 rfl rfl)
        have ho108 := own_fr ho98 hF102 (hC92.apartM 1 1 rfl rfl)
        have ho109 := own_fr ho99 hF102 (hC92.apartM 2 1 rfl rfl)
        refine WL.done rfl ?_
        refine QX.then_normal (hK58 _ _ ?_)
        refine WC.seq (fun K110 hK111 => ?_)
        refine WC.seq (fun K112 hK113 => ?_)
        refine WC.region ?_
        refine WL.runs 1 [(11, .int .i64 0)] (fun _ => by kernel_rfl) ?_
        refine WL.done rfl ?_
        refine QX.then_normal (hK113 _ _ ?_)
        refine WC.block ?_
        have hC114 := hC103.addNil
        refine WC.loop (fun m_ E_ w_ => ∃ (i : Nat) (dn : Bool) (A7 : Option Addr) (n7 c7 : Nat) (nx : Mt), m_ = (outK ps key).length - i ∧ E_ = [(0, .pointer (some ⟨p, 0, none⟩)), (1, .string key), (2, .slice r.a r.n r.c), (6, .int .i64 0), (7, .slice A19 ((outK ps key).length) c20), (8, .slice A7 n7 c7), (9, .bool dn), (10, .pointer (some ⟨g89, 0, none⟩)), (11, .int .i64 (i : Int))] ∧ Cx w (p :: R) w_ [(p, .cells #[.slice A1 ps.length c1, .slice A2 qs.length c2, .int .i64 size] 52), (g89, .cells #[.string key, .slice A80 (0 + r.n) c81] 65)] [R, blk (.slice A19 ((outK ps key).length) c20), blk (.slice A80 (0 + r.n) c81), blk (.slice A7 n7 c7)] ∧ World.ownsRow w_ 0 65 2 (.slice A19 ((outK ps key).length) c20) ((outK ps key).length) ((outK ps key).flatMap cellP) ∧ World.ownsRow w_ 0 5 1 (.slice A80 (0 + r.n) c81) (0 + r.n) (([] ++ r.xs).flatMap (Go.Tw.encI .u8)) ∧ World.ownsRow w_ 0 65 2 (.slice A1 ps.length c1) ps.length (ps.flatMap cellP) ∧ World.ownsRow w_ 0 65 2 (.slice A2 qs.length c2) qs.length (qs.flatMap cellP) ∧ rowsIn w_ R ps ∧ rowsIn w_ R qs ∧ World.ownsRow w_ 0 65 2 (.slice A7 n7 c7) n7 (nx.flatMap cellP) ∧ (i ≤ (outK ps key).length ∧ insK (key, (⟨A80, 0 + r.n, c81, [] ++ r.xs⟩ : BRow)) (outK ps key) = nx ++ insKB (key, (⟨A80, 0 + r.n, c81, [] ++ r.xs⟩ : BRow)) dn ((outK ps key).drop i))) ⟨_, _, ⟨0, false, none, 0, 0, [], rfl, rfl, hC114, ho108, ho109, ho104, ho105, hf106, hf107, own_nil _ _ _ _, Nat.zero_le _, rfl⟩, sub_of ⟨rfl, rfl, rfl, rfl, rfl, rfl, rfl, rfl, rfl, trivial⟩⟩ (fun m118 E_ w119 K115 hK116 hI117 => ?_)
        obtain ⟨i, dn, A7, n7, c7, nx, rfl, rfl, hC120, left_m118, row71_m118, now_m118, syn_m118, rw1_m118, rw2_m118, hnx7, hi, hins⟩ := hI117
        have hcn7_ := own_count cellP_len (by decide) hnx7
        have hnl := insK_nl hins hi
        refine WC.seq (fun K121 hK122 => ?_)
        refine WC.seq (fun K123 hK124 => ?_)
        refine WC.region ?_
        refine WL.runs 4 [(47, .bool (decide ((i : Int) < ((outK ps key).length : Int)))), (46, .int .i64 ((outK ps key).length : Int)), (45, .slice A19 ((outK ps key).length) c20), (44, .int .i64 (i : Int))] (fun _ => by kernel_rfl) ?_
        refine WL.done rfl ?_
        refine QX.then_normal (hK124 _ _ ?_)
        refine WC.test_at 47 (decide ((i : Int) < ((outK ps key).length : Int))) rfl (fun t125b => ?_) (fun t125b => ?_)
        · -- (i : Int) < ((outK ps key).length : Int): true
          have t125 : (i : Int) < ((outK ps key).length : Int) := by have q_ := of_decide_eq_true t125b; omega
          refine WC.cond_true rfl ?_
          refine WC.skip ?_
          refine QX.then_normal (hK122 _ _ ?_)
          refine WC.seq (fun K126 hK127 => ?_)
          refine WC.block ?_
          refine WC.seq (fun K128 hK129 => ?_)
          refine WC.seq (fun K130 hK131 => ?_)
          refine WC.region ?_
          refine WL.runs 3 [(52, .bool !dn), (51, .bool !dn), (50, .bool dn)] (fun _ => by kernel_rfl) ?_
          refine WL.test_at 52 (!dn) rfl (fun t132b => ?_) (fun t132b => ?_)
          · -- !dn = true: true
            have t132 : dn = false := by first | (simpa only [Bool.not_eq_true', Bool.not_eq_false'] using t132b) | simpa using t132b
            refine WL.runs 3 [(55, .int .i64 (i : Int)), (54, .slice A19 ((outK ps key).length) c20), (53, .string key)] (fun _ => by kernel_rfl) ?_
            have hn137 := own_count cellP_len (by decide) left_m118
            obtain ⟨e133, he134⟩ := get_some (xs := (outK ps key)) (i := i) (by omega)
            obtain ⟨b135, hA136⟩ := own_addr (by decide) cellP_len left_m118 he134
            refine WL.index A19 ((outK ps key).length) c20 56 .i64 (i : Int) b135 0 i 2 (by kernel_rfl) hA136 (by omega) (by omega) (i * 2) (by first | (simp; done) | omega) ?_
            refine WL.runs 1 [(57, .pointer (some ⟨b135, i * 2, none⟩))] (fun _ => by kernel_rfl) ?_
            refine WL.load 9 (.pointer (some ⟨b135, i * 2, none⟩)) (.string e133.1) 58 (by kernel_rfl) (run_load1 rfl (by simpa [Nat.add_assoc] using Rd.cell (own_rd left_m118 cellP_len (by decide)) hA136 he134 0 _ rfl)) ?_
            have hr138 : ∀ w_, Sem.run Try.prog (do eqGuard .lss 9 (Operand.tmp 53) (Operand.tmp 58) (.string key) (.string e133.1); binOp .lss 9 (.string key) (.string e133.1)) w_ = .ok (.bool (ltK key e133.1)) w_ := fun w_ => run_lssS
            refine WL.sem (do eqGuard .lss 9 (Operand.tmp 53) (Operand.tmp 58) (.string key) (.string e133.1); binOp .lss 9 (.string key) (.string e133.1)) 59 (.bool (ltK key e133.1)) (by kernel_rfl) (hr138 _) ?_
            refine WL.runs 1 [(60, .bool (ltK key e133.1))] (fun _ => by kernel_rfl) ?_
            refine WL.done rfl ?_
            refine QX.then_normal (hK131 _ _ ?_)
            refine WC.test_at 60 (ltK key e133.1) rfl (fun t139b => ?_) (fun t139b => ?_)
            · -- (ltK key e133.1) = true: true
              refine WC.cond_true rfl ?_
              refine WC.seq (fun K140 hK141 => ?_)
              refine WC.region ?_
              refine WL.runs 1 [(61, .slice A7 n7 c7)] (fun _ => by kernel_rfl) ?_
              refine WL.load 65 (.pointer (some ⟨g89, 0, none⟩)) (.agg #[.string key, .slice A80 (0 + r.n) c81]) 62 (by kernel_rfl) (run_ld (hC120.get 1 rfl) rfl) ?_
              refine WL.newM hC120 (fun b => .slice (some ⟨b, 0, none⟩) 1 1) (.cells #[.string key, .slice A80 (0 + r.n) c81] 65) 63 (fun _ => by kernel_rfl) (fun g142 w143 hb146 hF144 hC145 => ?_)
              have ho147 := own_fr left_m118 hF144 (by simp)
              have ho148 := own_fr row71_m118 hF144 (by simp)
              have ho149 := own_fr now_m118 hF144 (by simp)
              have ho150 := own_fr syn_m118 hF144 (by simp)
              have hf151 := rowsIn_fr rw1_m118 hF144 (by simp)
              have hf152 := rowsIn_fr rw2_m118 hF144 (by simp)
              have ho153 := own_fr hnx7 hF144 (by simp)
              obtain ⟨v154, w155, hr156, ho157, hF158, hC159, hnil160, hsub161⟩ := app_run Try.prog hC145 3 (v := .slice A7 n7 c7) rfl 50 50 65 2 40 n7 1 1 (some ⟨g142, 0, none⟩) rfl ho153 [.string key, .slice A80 (0 + r.n) c81] rfl (srcOk.blk 1 (hC145.get 2 rfl)) rfl (by simp only [maxLen]; omega) (by omega)
              have ho165 := own_snoc (enc := cellP) (ys := nx) (key, (⟨A80, 0 + r.n, c81, [] ++ r.xs⟩ : BRow)) ho157
              obtain ⟨A162, c163, rfl, hle164⟩ := own_form ho165
              refine WL.sem (Builtin.append_ #[50, 50] 50 #[.slice A7 n7 c7, .slice (some ⟨g142, 0, none⟩) 1 1]) 64 (.slice A162 (n7 + 1) c163) (by kernel_rfl) hr156 ?_
              have ho166 := own_fr ho147 hF158 (hC145.disj 1 3 rfl rfl (by decide))
              have ho167 := own_fr ho148 hF158 (hC145.disj 2 3 rfl rfl (by decide))
              have ho168 := own_fr ho149 hF158 (fun x_ hx_ => (hC145.disj 0 3 rfl rfl (by decide)) x_ (hb1_ x_ hx_))
              have ho169 := own_fr ho150 hF158 (fun x_ hx_ => (hC145.disj 0 3 rfl rfl (by decide)) x_ (hb2_ x_ hx_))
              have hf170 := rowsIn_fr hf151 hF158 (hC145.disj 0 3 rfl rfl (by decide))
              have hf171 := rowsIn_fr hf152 hF158 (hC145.disj 0 3 rfl rfl (by decide))
              refine WL.runs 1 [(8, .slice A162 (n7 + 1) c163)] (fun _ => by kernel_rfl) ?_
              refine WL.done rfl ?_
              refine QX.then_normal (hK141 _ _ ?_)
              refine WC.region ?_
              refine WL.runs 1 [(9, .bool true)] (fun _ => by kernel_rfl) ?_
              refine WL.done rfl ?_
              refine QX.then_normal (hK129 _ _ ?_)
              refine WC.region ?_
              refine WL.runs 3 [(67, .int .i64 (i : Int)), (66, .slice A19 ((outK ps key).length) c20), (65, .slice A162 (n7 + 1) c163)] (fun _ => by kernel_rfl) ?_
              refine WL.index A19 ((outK ps key).length) c20 68 .i64 (i : Int) b135 0 i 2 (by kernel_rfl) hA136 (by omega) (by omega) (i * 2) (by first | (simp; done) | omega) ?_
              refine WL.load 65 (.pointer (some ⟨b135, i * 2, none⟩)) (.agg #[.string e133.1, .slice e133.2.a e133.2.n e133.2.c]) 69 (by kernel_rfl) (run_rdN (l := [.string e133.1, .slice e133.2.a e133.2.n e133.2.c]) rfl rfl (fun j u hu => by have hq_ := Rd.cell (own_rd ho166 cellP_len (by decide)) hA136 he134 j u hu; simpa [Nat.add_assoc] using hq_)) ?_
              refine WL.newM hC159 (fun b => .slice (some ⟨b, 0, none⟩) 1 1) (.cells #[.string e133.1, .slice e133.2.a e133.2.n e133.2.c] 65) 70 (fun _ => by kernel_rfl) (fun g176 w177 hb180 hF178 hC179 => ?_)
              have ho181 := own_fr ho166 hF178 (by simp)
              have ho182 := own_fr ho167 hF178 (by simp)
              have ho183 := own_fr ho168 hF178 (by simp)
              have ho184 := own_fr ho169 hF178 (by simp)
              have hf185 := rowsIn_fr hf170 hF178 (by simp)
              have hf186 := rowsIn_fr hf171 hF178 (by simp)
              have ho187 := own_fr ho165 hF178 (by simp)
              obtain ⟨v188, w189, hr190, ho191, hF192, hC193, hnil194, hsub195⟩ := app_run Try.prog hC179 3 (v := .slice A162 (n7 + 1) c163) rfl 50 50 65 2 40 (n7 + 1) 1 1 (some ⟨g176, 0, none⟩) rfl ho187 [.string e133.1, .slice e133.2.a e133.2.n e133.2.c] rfl (srcOk.blk 1 (hC179.get 3 rfl)) rfl (by simp only [maxLen]; omega) (by omega)
              have ho199 := own_snoc (enc := cellP) (ys := nx ++ [(key, (⟨A80, 0 + r.n, c81, [] ++ r.xs⟩ : BRow))]) (e133.1, e133.2) ho191
              obtain ⟨A196, c197, rfl, hle198⟩ := own_form ho199
              refine WL.sem (Builtin.append_ #[50, 50] 50 #[.slice A162 (n7 + 1) c163, .slice (some ⟨g176, 0, none⟩) 1 1]) 71 (.slice A196 (n7 + 1 + 1) c197) (by kernel_rfl) hr190 ?_
              have ho200 := own_fr ho181 hF192 (hC179.disj 1 3 rfl rfl (by decide))
              have ho201 := own_fr ho182 hF192 (hC179.disj 2 3 rfl rfl (by decide))
              have ho202 := own_fr ho183 hF192 (fun x_ hx_ => (hC179.disj 0 3 rfl rfl (by decide)) x_ (hb1_ x_ hx_))
              have ho203 := own_fr ho184 hF192 (fun x_ hx_ => (hC179.disj 0 3 rfl rfl (by decide)) x_ (hb2_ x_ hx_))
              have hf204 := rowsIn_fr hf185 hF192 (hC179.disj 0 3 rfl rfl (by decide))
              have hf205 := rowsIn_fr hf186 hF192 (hC179.disj 0 3 rfl rfl (by decide))
              refine WL.runs 1 [(8, .slice A196 (n7 + 1 + 1) c197)] (fun _ => by kernel_rfl) ?_
              refine WL.done rfl ?_
              refine QX.block_normal ?_
              refine QX.then_normal (hK127 _ _ ?_)
              refine WC.region ?_
              refine WL.runs 2 [(49, .int .i64 (IntKind.i64.wrap ((i : Int) + 1))), (48, .int .i64 (i : Int))] (fun _ => by kernel_rfl) ?_
              refine WL.recast (show (.int .i64 (IntKind.i64.wrap ((i : Int) + 1)) : Value) = .int .i64 ((i : Int) + 1) from by rw [wrap_in_i64 ((i : Int) + 1) (by omega) (by omega)]) ?_
              refine WL.runs 1 [(11, .int .i64 ((i : Int) + 1))] (fun _ => by kernel_rfl) ?_
              refine WL.done rfl ?_
              refine QX.then_normal ?_
              have hC206 := hC193.pick [0, 1] [0, 1, 2, 3] rfl rfl
              refine fun a_ ha_ => hK116 _ _ _ ?_ ⟨i + 1, true, A196, n7 + 1 + 1, c197, nx ++ [(key, (⟨A80, 0 + r.n, c81, [] ++ r.xs⟩ : BRow))] ++ [(e133.1, e133.2)], rfl, rfl, hC206, ho200, ho201, ho202, ho203, hf204, hf205, ho199, by omega, insK_hit hins t132 he134 t139b⟩ a_ (ha_.weaken (sub_of ⟨rfl, rfl, rfl, rfl, rfl, rfl, rfl, rfl, rfl, trivial⟩))
              omega
            · -- (ltK key e133.1) = true: false
              refine WC.cond_false rfl ?_
              refine WC.skip ?_
              refine QX.then_normal (hK129 _ _ ?_)
              refine WC.region ?_
              refine WL.runs 3 [(67, .int .i64 (i : Int)), (66, .slice A19 ((outK ps key).length) c20), (65, .slice A7 n7 c7)] (fun _ => by kernel_rfl) ?_
              refine WL.index A19 ((outK ps key).length) c20 68 .i64 (i : Int) b135 0 i 2 (by kernel_rfl) hA136 (by omega) (by omega) (i * 2) (by first | (simp; done) | omega) ?_
              refine WL.load 65 (.pointer (some ⟨b135, i * 2, none⟩)) (.agg #[.string e133.1, .slice e133.2.a e133.2.n e133.2.c]) 69 (by kernel_rfl) (run_rdN (l := [.string e133.1, .slice e133.2.a e133.2.n e133.2.c]) rfl rfl (fun j u hu => by have hq_ := Rd.cell (own_rd left_m118 cellP_len (by decide)) hA136 he134 j u hu; simpa [Nat.add_assoc] using hq_)) ?_
              refine WL.newM hC120 (fun b => .slice (some ⟨b, 0, none⟩) 1 1) (.cells #[.string e133.1, .slice e133.2.a e133.2.n e133.2.c] 65) 70 (fun _ => by kernel_rfl) (fun g211 w212 hb215 hF213 hC214 => ?_)
              have ho216 := own_fr left_m118 hF213 (by simp)
              have ho217 := own_fr row71_m118 hF213 (by simp)
              have ho218 := own_fr now_m118 hF213 (by simp)
              have ho219 := own_fr syn_m118 hF213 (by simp)
              have hf220 := rowsIn_fr rw1_m118 hF213 (by simp)
              have hf221 := rowsIn_fr rw2_m118 hF213 (by simp)
              have ho222 := own_fr hnx7 hF213 (by simp)
              obtain ⟨v223, w224, hr225, ho226, hF227, hC228, hnil229, hsub230⟩ := app_run Try.prog hC214 3 (v := .slice A7 n7 c7) rfl 50 50 65 2 40 n7 1 1 (some ⟨g211, 0, none⟩) rfl ho222 [.string e133.1, .slice e133.2.a e133.2.n e133.2.c] rfl (srcOk.blk 1 (hC214.get 2 rfl)) rfl (by simp only [maxLen]; omega) (by omega)
              have ho234 := own_snoc (enc := cellP) (ys := nx) (e133.1, e133.2) ho226
              obtain ⟨A231, c232, rfl, hle233⟩ := own_form ho234
              refine WL.sem (Builtin.append_ #[50, 50] 50 #[.slice A7 n7 c7, .slice (some ⟨g211, 0, none⟩) 1 1]) 71 (.slice A231 (n7 + 1) c232) (by kernel_rfl) hr225 ?_
              have ho235 := own_fr ho216 hF227 (hC214.disj 1 3 rfl rfl (by decide))
              have ho236 := own_fr ho217 hF227 (hC214.disj 2 3 rfl rfl (by decide))
              have ho237 := own_fr ho218 hF227 (fun x_ hx_ => (hC214.disj 0 3 rfl rfl (by decide)) x_ (hb1_ x_ hx_))
              have ho238 := own_fr ho219 hF227 (fun x_ hx_ => (hC214.disj 0 3 rfl rfl (by decide)) x_ (hb2_ x_ hx_))
              have hf239 := rowsIn_fr hf220 hF227 (hC214.disj 0 3 rfl rfl (by decide))
              have hf240 := rowsIn_fr hf221 hF227 (hC214.disj 0 3 rfl rfl (by decide))
              refine WL.runs 1 [(8, .slice A231 (n7 + 1) c232)] (fun _ => by kernel_rfl) ?_
              refine WL.done rfl ?_
              refine QX.block_normal ?_
              refine QX.then_normal (hK127 _ _ ?_)
              refine WC.region ?_
              refine WL.runs 2 [(49, .int .i64 (IntKind.i64.wrap ((i : Int) + 1))), (48, .int .i64 (i : Int))] (fun _ => by kernel_rfl) ?_
              refine WL.recast (show (.int .i64 (IntKind.i64.wrap ((i : Int) + 1)) : Value) = .int .i64 ((i : Int) + 1) from by rw [wrap_in_i64 ((i : Int) + 1) (by omega) (by omega)]) ?_
              refine WL.runs 1 [(11, .int .i64 ((i : Int) + 1))] (fun _ => by kernel_rfl) ?_
              refine WL.done rfl ?_
              refine QX.then_normal ?_
              have hC241 := hC228.pick [0, 1] [0, 1, 2, 3] rfl rfl
              refine fun a_ ha_ => hK116 _ _ _ ?_ ⟨i + 1, dn, A231, n7 + 1, c232, nx ++ [(e133.1, e133.2)], rfl, rfl, hC241, ho235, ho236, ho237, ho238, hf239, hf240, ho234, by omega, insK_miss hins t132 he134 t139b⟩ a_ (ha_.weaken (sub_of ⟨rfl, rfl, rfl, rfl, rfl, rfl, rfl, rfl, rfl, trivial⟩))
              omega
          · -- !dn = true: false
            have t132 : dn = true := by first | (simpa only [Bool.not_eq_true', Bool.not_eq_false'] using t132b) | simpa using t132b
            refine WL.runs 8 [(60, .bool false), (59, undef), (58, undef), (57, undef), (56, undef), (55, undef), (54, undef), (53, undef)] (fun _ => by kernel_rfl) ?_
            refine WL.done rfl ?_
            refine QX.then_normal (hK131 _ _ ?_)
            refine WC.cond_false rfl ?_
            refine WC.skip ?_
            refine QX.then_normal (hK129 _ _ ?_)
            refine WC.region ?_
            refine WL.runs 3 [(67, .int .i64 (i : Int)), (66, .slice A19 ((outK ps key).length) c20), (65, .slice A7 n7 c7)] (fun _ => by kernel_rfl) ?_
            have hn246 := own_count cellP_len (by decide) left_m118
            obtain ⟨e242, he243⟩ := get_some (xs := (outK ps key)) (i := i) (by omega)
            obtain ⟨b244, hA245⟩ := own_addr (by decide) cellP_len left_m118 he243
            refine WL.index A19 ((outK ps key).length) c20 68 .i64 (i : Int) b244 0 i 2 (by kernel_rfl) hA245 (by omega) (by omega) (i * 2) (by first | (simp; done) | omega) ?_
            refine WL.load 65 (.pointer (some ⟨b244, i * 2, none⟩)) (.agg #[.string e242.1, .slice e242.2.a e242.2.n e242.2.c]) 69 (by kernel_rfl) (run_rdN (l := [.string e242.1, .slice e242.2.a e242.2.n e242.2.c]) rfl rfl (fun j u hu => by have hq_ := Rd.cell (own_rd left_m118 cellP_len (by decide)) hA245 he243 j u hu; simpa [Nat.add_assoc] using hq_)) ?_
            refine WL.newM hC120 (fun b => .slice (some ⟨b, 0, none⟩) 1 1) (.cells #[.string e242.1, .slice e242.2.a e242.2.n e242.2.c] 65) 70 (fun _ => by kernel_rfl) (fun g247 w248 hb251 hF249 hC250 => ?_)
            have ho252 := own_fr left_m118 hF249 (by simp)
            have ho253 := own_fr row71_m118 hF249 (by simp)
            have ho254 := own_fr now_m118 hF249 (by simp)
            have ho255 := own_fr syn_m118 hF249 (by simp)
            have hf256 := rowsIn_fr rw1_m118 hF249 (by simp)
            have hf257 := rowsIn_fr rw2_m118 hF249 (by simp)
            have ho258 := own_fr hnx7 hF249 (by simp)
            obtain ⟨v259, w260, hr261, ho262, hF263, hC264, hnil265, hsub266⟩ := app_run Try.prog hC250 3 (v := .slice A7 n7 c7) rfl 50 50 65 2 40 n7 1 1 (some ⟨g247, 0, none⟩) rfl ho258 [.string e242.1, .slice e242.2.a e242.2.n e242.2.c] rfl (srcOk.blk 1 (hC250.get 2 rfl)) rfl (by simp only [maxLen]; omega) (by omega)
            have ho270 := own_snoc (enc := cellP) (ys := nx) (e242.1, e242.2) ho262
            obtain ⟨A267, c268, rfl, hle269⟩ := own_form ho270
            refine WL.sem (Builtin.append_ #[50, 50] 50 #[.slice A7 n7 c7, .slice (some ⟨g247, 0, none⟩) 1 1]) 71 (.slice A267 (n7 + 1) c268) (by kernel_rfl) hr261 ?_
            have ho271 := own_fr ho252 hF263 (hC250.disj 1 3 rfl rfl (by decide))
            have ho272 := own_fr ho253 hF263 (hC250.disj 2 3 rfl rfl (by decide))
            have ho273 := own_fr ho254 hF263 (fun x_ hx_ => (hC250.disj 0 3 rfl rfl (by decide)) x_ (hb1_ x_ hx_))
            have ho274 := own_fr ho255 hF263 (fun x_ hx_ => (hC250.disj 0 3 rfl rfl (by decide)) x_ (hb2_ x_ hx_))
            have hf275 := rowsIn_fr hf256 hF263 (hC250.disj 0 3 rfl rfl (by decide))
            have hf276 := rowsIn_fr hf257 hF263 (hC250.disj 0 3 rfl rfl (by decide))
            refine WL.runs 1 [(8, .slice A267 (n7 + 1) c268)] (fun _ => by kernel_rfl) ?_
            refine WL.done rfl ?_
            refine QX.block_normal ?_
            refine QX.then_normal (hK127 _ _ ?_)
            refine WC.region ?_
            refine WL.runs 2 [(49, .int .i64 (IntKind.i64.wrap ((i : Int) + 1))), (48, .int .i64 (i : Int))] (fun _ => by kernel_rfl) ?_
            refine WL.recast (show (.int .i64 (IntKind.i64.wrap ((i : Int) + 1)) : Value) = .int .i64 ((i : Int) + 1) from by rw [wrap_in_i64 ((i : Int) + 1) (by omega) (by omega)]) ?_
            refine WL.runs 1 [(11, .int .i64 ((i : Int) + 1))] (fun _ => by kernel_rfl) ?_
            refine WL.done rfl ?_
            refine QX.then_normal ?_
            have hC277 := hC264.pick [0, 1] [0, 1, 2, 3] rfl rfl
            refine fun a_ ha_ => hK116 _ _ _ ?_ ⟨i + 1, dn, A267, n7 + 1, c268, nx ++ [(e242.1, e242.2)], rfl, rfl, hC277, ho271, ho272, ho273, ho274, hf275, hf276, ho270, by omega, insK_done hins t132 he243⟩ a_ (ha_.weaken (sub_of ⟨rfl, rfl, rfl, rfl, rfl, rfl, rfl, rfl, rfl, trivial⟩))
            omega
        · -- (i : Int) < ((outK ps key).length : Int): false
          have t125 : ((outK ps key).length : Int) ≤ (i : Int) := by have q_ := of_decide_eq_false t125b; omega
          refine WC.cond_false rfl ?_
          refine WC.exit ?_
          refine QX.then_exit ?_
          refine QX.then_exit ?_
          refine QX.block_hit ?_
          refine QX.then_normal (hK111 _ _ ?_)
          refine WC.seq (fun K278 hK279 => ?_)
          refine WC.seq (fun K280 hK281 => ?_)
          refine WC.region ?_
          refine WL.runs 2 [(73, .bool !dn), (72, .bool dn)] (fun _ => by kernel_rfl) ?_
          refine WL.done rfl ?_
          refine QX.then_normal (hK281 _ _ ?_)
          refine WC.test_at 73 (!dn) rfl (fun t282b => ?_) (fun t282b => ?_)
          · -- !dn = true: true
            have t282 : dn = false := by first | (simpa only [Bool.not_eq_true', Bool.not_eq_false'] using t282b) | simpa using t282b
            refine WC.cond_true rfl ?_
            refine WC.region ?_
            refine WL.runs 1 [(74, .slice A7 n7 c7)] (fun _ => by kernel_rfl) ?_
            refine WL.load 65 (.pointer (some ⟨g89, 0, none⟩)) (.agg #[.string key, .slice A80 (0 + r.n) c81]) 75 (by kernel_rfl) (run_ld (hC120.get 1 rfl) rfl) ?_
            refine WL.newM hC120 (fun b => .slice (some ⟨b, 0, none⟩) 1 1) (.cells #[.string key, .slice A80 (0 + r.n) c81] 65) 76 (fun _ => by kernel_rfl) (fun g283 w284 hb287 hF285 hC286 => ?_)
            have ho288 := own_fr left_m118 hF285 (by simp)
            have ho289 := own_fr row71_m118 hF285 (by simp)
            have ho290 := own_fr now_m118 hF285 (by simp)
            have ho291 := own_fr syn_m118 hF285 (by simp)
            have hf292 := rowsIn_fr rw1_m118 hF285 (by simp)
            have hf293 := rowsIn_fr rw2_m118 hF285 (by simp)
            have ho294 := own_fr hnx7 hF285 (by simp)
            obtain ⟨v295, w296, hr297, ho298, hF299, hC300, hnil301, hsub302⟩ := app_run Try.prog hC286 3 (v := .slice A7 n7 c7) rfl 50 50 65 2 40 n7 1 1 (some ⟨g283, 0, none⟩) rfl ho294 [.string key, .slice A80 (0 + r.n) c81] rfl (srcOk.blk 1 (hC286.get 2 rfl)) rfl (by simp only [maxLen]; omega) (by omega)
            have ho306 := own_snoc (enc := cellP) (ys := nx) (key, (⟨A80, 0 + r.n, c81, [] ++ r.xs⟩ : BRow)) ho298
            obtain ⟨A303, c304, rfl, hle305⟩ := own_form ho306
            refine WL.sem (Builtin.append_ #[50, 50] 50 #[.slice A7 n7 c7, .slice (some ⟨g283, 0, none⟩) 1 1]) 77 (.slice A303 (n7 + 1) c304) (by kernel_rfl) hr297 ?_
            have ho307 := own_fr ho288 hF299 (hC286.disj 1 3 rfl rfl (by decide))
            have ho308 := own_fr ho289 hF299 (hC286.disj 2 3 rfl rfl (by decide))
            have ho309 := own_fr ho290 hF299 (fun x_ hx_ => (hC286.disj 0 3 rfl rfl (by decide)) x_ (hb1_ x_ hx_))
            have ho310 := own_fr ho291 hF299 (fun x_ hx_ => (hC286.disj 0 3 rfl rfl (by decide)) x_ (hb2_ x_ hx_))
            have hf311 := rowsIn_fr hf292 hF299 (hC286.disj 0 3 rfl rfl (by decide))
            have hf312 := rowsIn_fr hf293 hF299 (hC286.disj 0 3 rfl rfl (by decide))
            refine WL.runs 1 [(8, .slice A303 (n7 + 1) c304)] (fun _ => by kernel_rfl) ?_
            refine WL.done rfl ?_
            refine QX.then_normal (hK279 _ _ ?_)
            refine WC.seq (fun K313 hK314 => ?_)
            refine WC.region ?_
            refine WL.runs 4 [(81, .pointer (some ⟨p, 0, none⟩)), (80, .pointer (some ⟨p, 0, none⟩)), (79, .slice A303 (n7 + 1) c304), (78, .pointer (some ⟨p, 0, none⟩))] (fun _ => by kernel_rfl) ?_
            refine WL.storeM (c' := #[.slice A303 (n7 + 1) c304, .slice A2 qs.length c2, .int .i64 size]) hC300 0 50 p 0 (.slice A303 (n7 + 1) c304) (by kernel_rfl) rfl (by kernel_rfl) (fun w315 hF317 hC318 => ?_)
            have ho319 := own_fr ho307 hF317 (hC300.apartM 1 0 rfl rfl)
            have ho320 := own_fr ho308 hF317 (hC300.apartM 2 0 rfl rfl)
            have ho321 := own_fr ho309 hF317 (fun x_ hx_ => (hC300.apartM 0 0 rfl rfl) x_ (hb1_ x_ hx_))
            have ho322 := own_fr ho310 hF317 (fun x_ hx_ => (hC300.apartM 0 0 rfl rfl) x_ (hb2_ x_ hx_))
            have hf323 := rowsIn_fr hf311 hF317 (hC300.apartM 0 0 rfl rfl)
            have hf324 := rowsIn_fr hf312 hF317 (hC300.apartM 0 0 rfl rfl)
            have ho325 := own_fr ho306 hF317 (hC300.apartM 3 0 rfl rfl)
            refine WL.done rfl ?_
            refine QX.then_normal (hK314 _ _ ?_)
            refine WC.seq (fun K326 hK327 => ?_)
            refine WC.region ?_
            refine WL.runs 1 [(6, .int .i64 0)] (fun _ => by kernel_rfl) ?_
            refine WL.done rfl ?_
            refine QX.then_normal (hK327 _ _ ?_)
            refine WC.ret ?_
            refine (hret _ _ _ rfl ?_).1
            clear hN hret hret' hK327 hK314 hK281 hK279 hK124 hK122 hK113 hK111 hK58 hK56 hK54 hK31 hK29 hK14 hK6 hK4 hK2
            have hie_ := insK_end hins (by omega)
            rw [if_neg (by rw [t282]; decide)] at hie_
            have hown_ := ho325
            rw [← hie_] at hown_
            have hra_ : rowAt w315 ((key, (⟨A80, 0 + r.n, c81, [] ++ r.xs⟩ : BRow))).2 := ⟨by have z_ := own_rd (ys := [] ++ r.xs) ho320 (Go.Tw.encI_len _) (by decide); exact z_, by simp [hrr.len], by simpa using hrr.byt⟩
            have hsz_ := hC318.fr.size
            exact ⟨_, R ++ (blk (.slice A303 (n7 + 1) c304) ++ blk (.slice A80 (0 + r.n) c81)), 0, rfl, hC318.fr, doc_mk (hC318.get 0 rfl) hown_ ho322 (rowsIn_ins (rowsIn_sub (rowsIn_mono hf323 (fun _ h_ => List.mem_append_left _ h_)) (fun p_ h_ => (mem_outK.1 h_).1)) hra_ (fun x_ hx_ => List.mem_append_right _ (List.mem_append_right _ hx_))) (rowsIn_mono hf324 (fun _ h_ => List.mem_append_left _ h_)) (fun x_ hx_ => List.mem_append_right _ (List.mem_append_left _ hx_)) (fun x_ hx_ => List.mem_append_left _ (hb2_ x_ hx_)) (fun h_ => (List.mem_append.1 h_).elim hpR_ (fun h2_ => (List.mem_append.1 h2_).elim (hC318.notin 3 0 rfl rfl) (hC318.notin 2 0 rfl rfl))) (fun x_ hx_ => (List.mem_append.1 hx_).elim (fun h_ => Nat.lt_of_lt_of_le (hlt_ x_ h_) hsz_) (fun h2_ => (List.mem_append.1 h2_).elim (own_lt hown_ x_) (own_lt ho320 x_))), (fun x_ h_ => (List.mem_append.1 h_).imp id (fun h2_ => (List.mem_append.1 h2_).elim (fun h3_ => (hC318.ownF _ (List.mem_of_getElem? (show _[3]? = some (blk (.slice A303 (n7 + 1) c304)) from rfl)) x_ h3_).resolve_left (fun z_ => (List.mem_cons.1 z_).elim (fun e_ => by subst e_; exact hC318.notin 3 0 rfl rfl h3_) (hC318.disj 3 0 rfl rfl (by decide) x_ h3_))) (fun h3_ => (hC318.ownF _ (List.mem_of_getElem? (show _[2]? = some (blk (.slice A80 (0 + r.n) c81)) from rfl)) x_ h3_).resolve_left (fun z_ => (List.mem_cons.1 z_).elim (fun e_ => by subst e_; exact hC318.notin 2 0 rfl rfl h3_) (hC318.disj 2 0 rfl rfl (by decide) x_ h3_))))), .ok _ (by omega) (by omega) (by rw [hrr.len]; omega) (by rw [ct_ins, ct_out]; simp)⟩
          · -- !dn = true: false
            have t282 : dn = true := by first | (simpa only [Bool.not_eq_true', Bool.not_eq_false'] using t282b) | simpa using t282b
            refine WC.cond_false rfl ?_
            refine WC.skip ?_
            refine QX.then_normal (hK279 _ _ ?_)
            refine WC.seq (fun K328 hK329 => ?_)
            refine WC.region ?_
            refine WL.runs 4 [(81, .pointer (some ⟨p, 0, none⟩)), (80, .pointer (some ⟨p, 0, none⟩)), (79, .slice A7 n7 c7), (78, .pointer (some ⟨p, 0, none⟩))] (fun _ => by kernel_rfl) ?_
            refine WL.storeM (c' := #[.slice A7 n7 c7, .slice A2 qs.length c2, .int .i64 size]) hC120 0 50 p 0 (.slice A7 n7 c7) (by kernel_rfl) rfl (by kernel_rfl) (fun w330 hF332 hC333 => ?_)
            have ho334 := own_fr left_m118 hF332 (hC120.apartM 1 0 rfl rfl)
            have ho335 := own_fr row71_m118 hF332 (hC120.apartM 2 0 rfl rfl)
            have ho336 := own_fr now_m118 hF332 (fun x_ hx_ => (hC120.apartM 0 0 rfl rfl) x_ (hb1_ x_ hx_))
            have ho337 := own_fr syn_m118 hF332 (fun x_ hx_ => (hC120.apartM 0 0 rfl rfl) x_ (hb2_ x_ hx_))
            have hf338 := rowsIn_fr rw1_m118 hF332 (hC120.apartM 0 0 rfl rfl)
            have hf339 := rowsIn_fr rw2_m118 hF332 (hC120.apartM 0 0 rfl rfl)
            have ho340 := own_fr hnx7 hF332 (hC120.apartM 3 0 rfl rfl)
            refine WL.done rfl ?_
            refine QX.then_normal (hK329 _ _ ?_)
            refine WC.seq (fun K341 hK342 => ?_)
            refine WC.region ?_
            refine WL.runs 1 [(6, .int .i64 0)] (fun _ => by kernel_rfl) ?_
            refine WL.done rfl ?_
            refine QX.then_normal (hK342 _ _ ?_)
            refine WC.ret ?_
            refine (hret _ _ _ rfl ?_).1
            clear hN hret hret' hK342 hK329 hK281 hK279 hK124 hK122 hK113 hK111 hK58 hK56 hK54 hK31 hK29 hK14 hK6 hK4 hK2
            have hie_ := insK_end hins (by omega)
            rw [if_pos t282] at hie_
            have hown_ := ho340
            rw [← hie_] at hown_
            have hra_ : rowAt w330 ((key, (⟨A80, 0 + r.n, c81, [] ++ r.xs⟩ : BRow))).2 := ⟨by have z_ := own_rd (ys := [] ++ r.xs) ho335 (Go.Tw.encI_len _) (by decide); exact z_, by simp [hrr.len], by simpa using hrr.byt⟩
            have hsz_ := hC333.fr.size
            exact ⟨_, R ++ (blk (.slice A7 n7 c7) ++ blk (.slice A80 (0 + r.n) c81)), 0, rfl, hC333.fr, doc_mk (hC333.get 0 rfl) hown_ ho337 (rowsIn_ins (rowsIn_sub (rowsIn_mono hf338 (fun _ h_ => List.mem_append_left _ h_)) (fun p_ h_ => (mem_outK.1 h_).1)) hra_ (fun x_ hx_ => List.mem_append_right _ (List.mem_append_right _ hx_))) (rowsIn_mono hf339 (fun _ h_ => List.mem_append_left _ h_)) (fun x_ hx_ => List.mem_append_right _ (List.mem_append_left _ hx_)) (fun x_ hx_ => List.mem_append_left _ (hb2_ x_ hx_)) (fun h_ => (List.mem_append.1 h_).elim hpR_ (fun h2_ => (List.mem_append.1 h2_).elim (hC333.notin 3 0 rfl rfl) (hC333.notin 2 0 rfl rfl))) (fun x_ hx_ => (List.mem_append.1 hx_).elim (fun h_ => Nat.lt_of_lt_of_le (hlt_ x_ h_) hsz_) (fun h2_ => (List.mem_append.1 h2_).elim (own_lt hown_ x_) (own_lt ho335 x_))), (fun x_ h_ => (List.mem_append.1 h_).imp id (fun h2_ => (List.mem_append.1 h2_).elim (fun h3_ => (hC333.ownF _ (List.mem_of_getElem? (show _[3]? = some (blk (.slice A7 n7 c7)) from rfl)) x_ h3_).resolve_left (fun z_ => (List.mem_cons.1 z_).elim (fun e_ => by subst e_; exact hC333.notin 3 0 rfl rfl h3_) (hC333.disj 3 0 rfl rfl (by decide) x_ h3_))) (fun h3_ => (hC333.ownF _ (List.mem_of_getElem? (show _[2]? = some (blk (.slice A80 (0 + r.n) c81)) from rfl)) x_ h3_).resolve_left (fun z_ => (List.mem_cons.1 z_).elim (fun e_ => by subst e_; exact hC333.notin 2 0 rfl rfl h3_) (hC333.disj 2 0 rfl rfl (by decide) x_ h3_))))), .ok _ (by omega) (by omega) (by rw [hrr.len]; omega) (by rw [ct_ins, ct_out]; simp)⟩

end Go.Proofs.Ytelmklombehhkaa
