/- Contracts of functions of the program, each proved by a walk through its code; conditions stand in the statements. -/
import Derived.Test.YtkhdliobbbmkoaaProg
import Derived.Test.YtkhdliobbbmkoaaTwByt
namespace Go.Proofs.Ytkhdliobbbmkoaa
set_option linter.unusedSimpArgs false
set_option linter.unusedVariables false
set_option linter.unusedSectionVars false
open Go Go.RowKit Go.Tw
set_option linter.unusedVariables false
set_option maxRecDepth 20000
structure BRow where
  a : Option Addr
  n : Nat
  c : Nat
  xs : List Int
def evB (r : BRow) : Value := .slice r.a r.n r.c
def ekS (s : ByteArray) : Value := .string s
def cellB (r : BRow) : List Value := [.slice r.a r.n r.c]
theorem cellB_len (r : BRow) : (cellB r).length = 1 := rfl
def zeroB : BRow := ⟨none, 0, 0, []⟩
def byteL (xs : List Int) : Prop := ∀ x ∈ xs, 0 ≤ x ∧ x < 256
structure rowAt (w : World) (r : BRow) : Prop where
  rd : Rd w 1 (encI .u8) r.a r.xs
  len : r.xs.length = r.n
  byt : byteL r.xs
abbrev Ct := List (ByteArray × List Int)
abbrev Mt := List (ByteArray × BRow)
def ct (m : Mt) : Ct := m.map fun p => (p.1, p.2.xs)
def rblk (r : BRow) : List Nat := blk (.slice r.a r.n r.c)
def rfoot (m : Mt) : List Nat := m.flatMap fun p => rblk p.2
def usedL (N : Ct) : Nat := (N.map fun p => p.1.size + p.2.length).sum
def catL (ps : List BRow) : List Int := ps.flatMap (·.xs)
def keyOk (N : Ct) : Prop := ∀ p ∈ N, 1 ≤ p.1.size
def unlN (N Y : Ct) : Nat := (N.filter fun p => !decide (lookL Y p.1 = some p.2)).length + (Y.filter fun p => (lookL N p.1).isNone).length
theorem look_mem {κ β : Type} [DecidableEq κ] : ∀ {m : List (κ × β)} {k : κ} {v : β}, lookL m k = some v → (k, v) ∈ m
  | (a, b) :: r, k, v, h => by
    unfold lookL at h
    split at h
    · rename_i e; subst e; cases h; simp
    · exact List.mem_cons_of_mem _ (look_mem h)
theorem put_mem {κ β : Type} [DecidableEq κ] : ∀ {m : List (κ × β)} {k : κ} {v : β} {p : κ × β}, p ∈ putL m k v → p ∈ m ∨ p = (k, v)
  | [], k, v, p, h => by simp [putL] at h; exact .inr h
  | (a, b) :: r, k, v, p, h => by
    unfold putL at h
    split at h
    · simp only [List.mem_cons] at h ⊢; rcases h with h | h
      · exact .inr h
      · exact .inl (.inr h)
    · simp only [List.mem_cons] at h ⊢; rcases h with h | h
      · exact .inl (.inl h)
      · rcases put_mem h with h | h
        · exact .inl (.inr h)
        · exact .inr h
theorem ct_look (m : Mt) (k : ByteArray) : lookL (ct m) k = (lookL m k).map (·.xs) := by
  induction m with
  | nil => rfl
  | cons p r ih => obtain ⟨a, b⟩ := p; simp only [ct, List.map_cons, lookL] at ih ⊢; split <;> simp_all [ct]
theorem ct_put (m : Mt) (k : ByteArray) (r : BRow) : ct (putL m k r) = putL (ct m) k r.xs := by
  induction m with
  | nil => rfl
  | cons p q ih => obtain ⟨a, b⟩ := p; simp only [ct, List.map_cons, putL] at ih ⊢; split <;> simp_all [ct]
theorem used_cons (p : ByteArray × List Int) (N : Ct) : usedL (p :: N) = p.1.size + p.2.length + usedL N := by simp [usedL]
theorem used_app (N Y : Ct) : usedL (N ++ Y) = usedL N + usedL Y := by simp [usedL]
theorem used_perm {N Y : Ct} (h : N.Perm Y) : usedL N = usedL Y := (h.map _).sum_nat
theorem used_del : ∀ {N : Ct} {k : ByteArray} {v : List Int}, lookL N k = some v → usedL N = usedL (delL N k) + k.size + v.length
  | (a, b) :: r, k, v, h => by
    unfold lookL at h
    unfold delL
    split at h
    · rename_i e; subst e; cases h; rw [if_pos rfl, used_cons]; dsimp only; omega
    · rename_i e; rw [if_neg e, used_cons, used_cons, used_del h]; omega
theorem del_none {κ β : Type} [DecidableEq κ] : ∀ {m : List (κ × β)} {k : κ}, lookL m k = none → delL m k = m
  | [], _, _ => rfl
  | (a, b) :: r, k, h => by
    unfold lookL at h
    unfold delL
    split at h
    · cases h
    · rename_i e; rw [if_neg e, del_none h]
theorem used_put : ∀ (N : Ct) (k : ByteArray) (v : List Int), usedL (putL N k v) = usedL (delL N k) + k.size + v.length
  | [], k, v => by simp [putL, delL, usedL]
  | (a, b) :: r, k, v => by
    unfold putL delL
    split
    · rw [used_cons]; dsimp only; omega
    · rw [used_cons, used_cons, used_put r k v]; omega
theorem len_used : ∀ {N : Ct}, keyOk N → N.length ≤ usedL N
  | [], _ => by simp
  | p :: r, h => by
    rw [used_cons]
    have h1 := h p (by simp)
    have h2 := len_used (N := r) fun q hq => h q (by simp [hq])
    simp only [List.length_cons]; omega
theorem keyOk_put {N : Ct} {k : ByteArray} {v : List Int} (h : keyOk N) (hk : 1 ≤ k.size) : keyOk (putL N k v) := fun p hp => by
  rcases put_mem hp with h1 | rfl
  · exact h p h1
  · exact hk
theorem rowAt.fr {w w' : World} {r : BRow} {G : List Nat} (h : rowAt w r) (hf : Fr w w' G) (hd : ∀ x ∈ rblk r, x ∉ G) : rowAt w' r :=
  ⟨h.rd.frN hf fun b off hA => hd b (by simp [rblk, blk, Value.ownBlock, hA]), h.len, h.byt⟩
def rowsAt (w : World) (m : Mt) : Prop := ∀ p ∈ m, rowAt w p.2
theorem rfoot_mem {m : Mt} {p : ByteArray × BRow} (h : p ∈ m) {x : Nat} (hx : x ∈ rblk p.2) : x ∈ rfoot m := List.mem_flatMap.2 ⟨p, h, hx⟩
/-- a map of rows -/
structure pairsAt (w : World) (b : Nat) (m : Mt) : Prop where
  map : ∃ es c, w.heap[b]? = some (.map es c) ∧ MapOk ekS evB es c m
  rows : rowsAt w m
  keys : keyOk (ct m)
  used : usedL (ct m) ≤ 67108864
  lt : ∀ x ∈ rfoot m, x < w.heap.size
theorem pairsAt.fr {w w' : World} {b : Nat} {m : Mt} {G : List Nat} (h : pairsAt w b m) (hf : Fr w w' G) (hb : b ∉ G) (hd : ∀ x ∈ rfoot m, x ∉ G) : pairsAt w' b m := by
  obtain ⟨⟨es, c, h1, h2⟩, h3, h4, h5, h6⟩ := h
  exact ⟨⟨es, c, hf.has h1 hb, h2⟩, fun p hp => (h3 p hp).fr hf fun x hx => hd x (rfoot_mem hp hx), h4, h5, fun x hx => Nat.lt_of_lt_of_le (h6 x hx) hf.size⟩
/-- a store: block p; F: its blocks; N, Y: what it shows, what was synced -/
def stAt (w : World) (F : List Nat) (p : Nat) (N Y : Ct) (size : Int) : Prop :=
  ∃ b1 b2 m1 m2, w.heap[p]? = some (.cells #[.map (some b1), .map (some b2), .int .i64 size] 70 (0, 0)) ∧ pairsAt w b1 m1 ∧ pairsAt w b2 m2 ∧ ct m1 = N ∧ ct m2 = Y ∧ F = p :: b1 :: b2 :: (rfoot m1 ++ rfoot m2) ∧ (p ≠ b1 ∧ p ≠ b2 ∧ b1 ≠ b2) ∧ (∀ x ∈ rfoot m1 ++ rfoot m2, x ∉ [p, b1, b2]) ∧ 0 ≤ size ∧ size ≤ 67108864 ∧ (usedL N : Int) ≤ size ∧ (usedL Y : Int) ≤ size
theorem stAt_lt {w : World} {F : List Nat} {p : Nat} {N Y : Ct} {size : Int} (h : stAt w F p N Y size) : ∀ x ∈ F, x < w.heap.size := by
  obtain ⟨b1, b2, m1, m2, h1, h2, h3, _, _, rfl, _⟩ := h
  intro x hx
  simp only [List.mem_cons, List.mem_append] at hx
  rcases hx with rfl | rfl | rfl | hx | hx
  · exact lt_of_heap h1
  · obtain ⟨es, c, q, _⟩ := h2.map; exact lt_of_heap q
  · obtain ⟨es, c, q, _⟩ := h3.map; exact lt_of_heap q
  · exact h2.lt x hx
  · exact h3.lt x hx
theorem stAt_fr {w w' : World} {F : List Nat} {p : Nat} {N Y : Ct} {size : Int} {G : List Nat} (h : stAt w F p N Y size) (hf : Fr w w' G) (hd : ∀ x ∈ F, x ∉ G) : stAt w' F p N Y size := by
  obtain ⟨b1, b2, m1, m2, h1, h2, h3, h4, h5, rfl, h6, h7, h8⟩ := h
  exact ⟨b1, b2, m1, m2, hf.has h1 (hd p (by simp)), h2.fr hf (hd b1 (by simp)) (fun x hx => hd x (by simp [hx])), h3.fr hf (hd b2 (by simp)) (fun x hx => hd x (by simp [hx])), h4, h5, rfl, h6, h7, h8⟩
theorem pairs_put {w w' : World} {b1 : Nat} {m1 : Mt} {es : Array MapEntry} {c : Nat} {key : ByteArray} {r : BRow} (h : pairsAt w b1 m1) (hb : w'.heap[b1]? = some (.map es c)) (hm : MapOk ekS evB es c (putL m1 key r)) {G : List Nat} (hf : Fr w w' G) (hd : ∀ x ∈ rfoot m1, x ∉ G) (hr : rowAt w' r) (hlt : ∀ x ∈ rblk r, x < w'.heap.size) (hk : 1 ≤ key.size) (hu : usedL (putL (ct m1) key r.xs) ≤ 67108864) : pairsAt w' b1 (putL m1 key r) := by
  refine ⟨⟨es, c, hb, hm⟩, fun p hp => ?_, by rw [ct_put]; exact keyOk_put h.keys hk, by rw [ct_put]; exact hu, fun x hx => ?_⟩
  · rcases put_mem hp with h1 | rfl
    · exact (h.rows p h1).fr hf fun x hx => hd x (rfoot_mem h1 hx)
    · exact hr
  · obtain ⟨p, hp, hx⟩ := List.mem_flatMap.1 hx
    rcases put_mem hp with h1 | rfl
    · exact Nat.lt_of_lt_of_le (h.lt x (rfoot_mem h1 hx)) hf.size
    · exact hlt x hx
theorem rfoot_put {m : Mt} {key : ByteArray} {r : BRow} {x : Nat} (h : x ∈ rfoot (putL m key r)) : x ∈ rfoot m ∨ x ∈ rblk r := by
  obtain ⟨p, hp, hx⟩ := List.mem_flatMap.1 h
  rcases put_mem hp with h1 | rfl
  · exact .inl (rfoot_mem h1 hx)
  · exact .inr hx
/-- what Put answers: N, size, the key, how many bytes -/
def putE (N : Ct) (size : Int) (key : ByteArray) (tot : Nat) : Int := if key.size = 0 ∨ 64 < key.size then 9 else if ((usedL (delL N key) + key.size + tot : Nat) : Int) ≤ size then 0 else 5
theorem it_used {es : Array MapEntry} {seen : Array Nat} {m vis rest : Mt} {p : ByteArray × BRow} (h : It ekS evB es seen m (vis ++ [p]) rest) : usedL (ct vis) + p.1.size + p.2.xs.length ≤ usedL (ct m) ∧ p ∈ m := by
  have h1 := h.all
  refine ⟨?_, h1.subset (by simp)⟩
  unfold ct at *; rw [← used_perm (h1.map fun p : ByteArray × BRow => (p.1, p.2.xs))]
  rw [List.map_append, List.map_append, used_app, used_app, List.map_cons, used_cons]
  dsimp only; omega
theorem used_snoc (vis : Mt) (p : ByteArray × BRow) : usedL (ct (vis ++ [p])) = usedL (ct vis) + p.1.size + p.2.xs.length := by
  unfold ct; rw [List.map_append, used_app]; show _ + usedL [(p.1, p.2.xs)] = _; rw [used_cons]; show _ + (p.1.size + p.2.xs.length + 0) = _; omega
theorem ct_perm {a b : Mt} (h : a.Perm b) : (ct a).Perm (ct b) := h.map _
theorem cat_snoc {ps : List BRow} {i : Nat} {e : BRow} (h : ps[i]? = some e) : catL (ps.take (i + 1)) = catL (ps.take i) ++ e.xs := by
  obtain ⟨hk, rfl⟩ := List.getElem?_eq_some_iff.1 h
  unfold catL; rw [List.take_succ_eq_append_getElem hk, List.flatMap_append]; simp
theorem cat_le (ps : List BRow) (i : Nat) : (catL (ps.take i)).length ≤ (catL ps).length := by
  have h : catL ps = catL (ps.take i) ++ catL (ps.drop i) := by unfold catL; rw [← List.flatMap_append, List.take_append_drop]
  rw [h, List.length_append]; omega
theorem cat_snoc_le {ps : List BRow} {i : Nat} {e : BRow} (h : ps[i]? = some e) : (catL (ps.take (i + 1))).length = (catL (ps.take i)).length + e.xs.length ∧ (catL (ps.take i)).length + e.xs.length ≤ (catL ps).length := by
  have h1 := cat_le ps (i + 1)
  rw [cat_snoc h, List.length_append] at *
  exact ⟨rfl, h1⟩
theorem newF_of {w0 w : World} {F0 : List Nat} {M : List (Nat × Obj)} {Fs : List (List Nat)} {F : List Nat} (h : Cx w0 F0 w M Fs) (j : Nat) (hj : Fs[j]? = some F) (_h0 : ∀ x ∈ F0, x < w0.heap.size) (hn : ∀ q ∈ F0, q ∉ F) : ∀ x ∈ F, w0.heap.size ≤ x := fun x hx => by
  rcases h.ownF F (List.mem_of_getElem? hj) x hx with h1 | h1
  · exact absurd hx (hn x h1)
  · exact h1
theorem stAt_mk {w' : World} {p b1 b2 : Nat} {m1 m2 : Mt} {size : Int} (hp : w'.heap[p]? = some (.cells #[.map (some b1), .map (some b2), .int .i64 size] 70 (0, 0))) (h1 : pairsAt w' b1 m1) (h2 : pairsAt w' b2 m2) (hne : p ≠ b1 ∧ p ≠ b2 ∧ b1 ≠ b2) (hd : ∀ x ∈ rfoot m1 ++ rfoot m2, x ∉ [p, b1, b2]) (hs : 0 ≤ size ∧ size ≤ 67108864) (hu1 : (usedL (ct m1) : Int) ≤ size) (hu2 : (usedL (ct m2) : Int) ≤ size) : stAt w' (p :: b1 :: b2 :: (rfoot m1 ++ rfoot m2)) p (ct m1) (ct m2) size :=
  ⟨b1, b2, m1, m2, hp, h1, h2, rfl, rfl, rfl, hne, hd, hs.1, hs.2, hu1, hu2⟩
theorem pairs_nil {w : World} {b : Nat} (h : w.heap[b]? = some (.map #[] 0)) : pairsAt w b [] :=
  ⟨⟨_, _, h, MapOk.nil _ _⟩, fun _ h => (List.not_mem_nil h).elim, fun _ h => (List.not_mem_nil h).elim, by decide, fun _ h => (List.not_mem_nil h).elim⟩
theorem pairs_copy {w : World} {b b' : Nat} {m : Mt} {es : Array MapEntry} {c : Nat} (h : pairsAt w b m) (hb : w.heap[b']? = some (.map es c)) (hm : MapOk ekS evB es c m) : pairsAt w b' m :=
  ⟨⟨es, c, hb, hm⟩, h.rows, h.keys, h.used, h.lt⟩
theorem rfoot_nil : rfoot [] = [] := rfl
theorem key0 {key : ByteArray} {n : Nat} (h : key = ⟨#[]⟩) : key.size = 0 ∨ n < key.size := .inl (by rw [h]; rfl)
theorem key1 {key : ByteArray} {n : Nat} (h : key ≠ ⟨#[]⟩) (hn : key.size ≤ n) : ¬ (key.size = 0 ∨ n < key.size) := by
  rintro (h1 | h1)
  · exact h (by cases key with | mk d => congr 1; exact Array.eq_empty_of_size_eq_zero h1)
  · omega
theorem pairs_re {w w' : World} {b : Nat} {m : Mt} {es : Array MapEntry} {c : Nat} {G : List Nat} (h : pairsAt w b m) (hb : w'.heap[b]? = some (.map es c)) (hm : MapOk ekS evB es c m) (hf : Fr w w' G) (hd : ∀ x ∈ rfoot m, x ∉ G) : pairsAt w' b m :=
  ⟨⟨es, c, hb, hm⟩, fun p hp => (h.rows p hp).fr hf fun x hx => hd x (rfoot_mem hp hx), h.keys, h.used, fun x hx => Nat.lt_of_lt_of_le (h.lt x hx) hf.size⟩
theorem put_fin {w w' : World} {p b1 b2 : Nat} {m1 m2 : Mt} {size : Int} {key : ByteArray} {r : BRow} {es1 es2 : Array MapEntry} {c1 c2 : Nat} (hq1 : pairsAt w b1 m1) (hq2 : pairsAt w b2 m2) (hne : p ≠ b1 ∧ p ≠ b2 ∧ b1 ≠ b2) (hft : ∀ x ∈ rfoot m1 ++ rfoot m2, x ∉ [p, b1, b2]) (hlt : ∀ x ∈ [p, b1, b2], x < w.heap.size) (hf : Fr w w' [p, b1, b2])
    (hp : w'.heap[p]? = some (.cells #[.map (some b1), .map (some b2), .int .i64 size] 70 (0, 0))) (hb1 : w'.heap[b1]? = some (.map es1 c1)) (hm1 : MapOk ekS evB es1 c1 (putL m1 key r)) (hb2 : w'.heap[b2]? = some (.map es2 c2)) (hm2 : MapOk ekS evB es2 c2 m2) (hr : rowAt w' r) (hrn : ∀ x ∈ rblk r, w.heap.size ≤ x) (hrl : ∀ x ∈ rblk r, x < w'.heap.size) (hk : 1 ≤ key.size)
    (hs : 0 ≤ size ∧ size ≤ 67108864) (hu : (usedL (putL (ct m1) key r.xs) : Int) ≤ size) (hu2 : (usedL (ct m2) : Int) ≤ size) :
    ∃ F', Fr w w' (p :: b1 :: b2 :: (rfoot m1 ++ rfoot m2)) ∧ stAt w' F' p (putL (ct m1) key r.xs) (ct m2) size ∧ ∀ x ∈ F', x ∈ p :: b1 :: b2 :: (rfoot m1 ++ rfoot m2) ∨ w.heap.size ≤ x := by
  have h1 : pairsAt w' b1 (putL m1 key r) := pairs_put hq1 hb1 hm1 hf (fun x hx => hft x (by simp [hx])) hr hrl hk (by omega)
  have h2 : pairsAt w' b2 m2 := pairs_re hq2 hb2 hm2 hf (fun x hx => hft x (by simp [hx]))
  rw [← ct_put] at hu ⊢
  refine ⟨_, hf.mono (fun x hx => by simp only [List.mem_cons, List.not_mem_nil, or_false] at hx ⊢; rcases hx with h | h | h <;> simp [h]), stAt_mk hp h1 h2 hne (fun x hx => ?_) hs hu hu2, fun x hx => ?_⟩
  · rcases List.mem_append.1 hx with hx | hx
    · rcases rfoot_put hx with hx | hx
      · exact hft x (by simp [hx])
      · intro h; have := hlt x h; have := hrn x hx; omega
    · exact hft x (by simp [hx])
  · simp only [List.mem_cons, List.mem_append] at hx ⊢
    rcases hx with h | h | h | h | h
    · exact .inl (.inl h)
    · exact .inl (.inr (.inl h))
    · exact .inl (.inr (.inr (.inl h)))
    · rcases rfoot_put h with h | h
      · exact .inl (.inr (.inr (.inr (.inl h))))
      · exact .inr (hrn x h)
    · exact .inl (.inr (.inr (.inr (.inr h))))
theorem sync_fin {w w' : World} {p b1 b2 b3 : Nat} {m1 m2 : Mt} {size : Int} {es1 : Array MapEntry} {c1 : Nat} (hq1 : pairsAt w b1 m1) (hne : p ≠ b1) (hft : ∀ x ∈ rfoot m1 ++ rfoot m2, x ∉ [p, b1, b2]) (hlt : ∀ x ∈ [p, b1, b2], x < w.heap.size) (hf : Fr w w' [p, b1, b2]) (h3 : w.heap.size ≤ b3)
    (hp : w'.heap[p]? = some (.cells #[.map (some b1), .map (some b3), .int .i64 size] 70 (0, 0))) (hb1 : w'.heap[b1]? = some (.map es1 c1)) (hb3 : w'.heap[b3]? = some (.map es1 c1)) (hm1 : MapOk ekS evB es1 c1 m1) (hs : 0 ≤ size ∧ size ≤ 67108864) (hu : (usedL (ct m1) : Int) ≤ size) :
    ∃ F', Fr w w' (p :: b1 :: b2 :: (rfoot m1 ++ rfoot m2)) ∧ stAt w' F' p (ct m1) (ct m1) size ∧ ∀ x ∈ F', x ∈ p :: b1 :: b2 :: (rfoot m1 ++ rfoot m2) ∨ w.heap.size ≤ x := by
  have h1 : pairsAt w' b1 m1 := pairs_re hq1 hb1 hm1 hf (fun x hx => hft x (by simp [hx]))
  have hl : ∀ x, x ∈ [p, b1, b2] → x ≠ b3 := fun x hx e => by have := hlt x hx; omega
  refine ⟨_, hf.mono (fun x hx => by simp only [List.mem_cons, List.not_mem_nil, or_false] at hx ⊢; rcases hx with h | h | h <;> simp [h]), stAt_mk hp h1 (pairs_copy h1 hb3 hm1) ⟨hne, hl p (by simp), hl b1 (by simp)⟩ (fun x hx => ?_) hs hu hu, fun x hx => ?_⟩
  · have hx' : x ∈ rfoot m1 := by simpa using hx
    have h0 := hft x (by simp [hx'])
    have h5 := hq1.lt x hx'
    simp only [List.mem_cons, List.not_mem_nil, or_false, not_or] at h0 ⊢
    exact ⟨h0.1, h0.2.1, by omega⟩
  · simp only [List.mem_cons, List.mem_append, or_self] at hx ⊢
    rcases hx with h | h | h | h
    · exact .inl (.inl h)
    · exact .inl (.inr (.inl h))
    · exact .inr (by omega)
    · exact .inl (.inr (.inr (.inr (.inl h))))
theorem crash_fin {w w' : World} {p b1 b2 b3 : Nat} {m1 m2 : Mt} {size : Int} {es2 : Array MapEntry} {c2 : Nat} (hq2 : pairsAt w b2 m2) (hne : p ≠ b2) (hft : ∀ x ∈ rfoot m1 ++ rfoot m2, x ∉ [p, b1, b2]) (hlt : ∀ x ∈ [p, b1, b2], x < w.heap.size) (hf : Fr w w' [p, b1, b2]) (h3 : w.heap.size ≤ b3)
    (hp : w'.heap[p]? = some (.cells #[.map (some b3), .map (some b2), .int .i64 size] 70 (0, 0))) (hb2 : w'.heap[b2]? = some (.map es2 c2)) (hb3 : w'.heap[b3]? = some (.map es2 c2)) (hm2 : MapOk ekS evB es2 c2 m2) (hs : 0 ≤ size ∧ size ≤ 67108864) (hu : (usedL (ct m2) : Int) ≤ size) :
    ∃ F', Fr w w' (p :: b1 :: b2 :: (rfoot m1 ++ rfoot m2)) ∧ stAt w' F' p (ct m2) (ct m2) size ∧ ∀ x ∈ F', x ∈ p :: b1 :: b2 :: (rfoot m1 ++ rfoot m2) ∨ w.heap.size ≤ x := by
  have h1 : pairsAt w' b2 m2 := pairs_re hq2 hb2 hm2 hf (fun x hx => hft x (by simp [hx]))
  have hl : ∀ x, x ∈ [p, b1, b2] → b3 ≠ x := fun x hx e => by have := hlt x hx; omega
  refine ⟨_, hf.mono (fun x hx => by simp only [List.mem_cons, List.not_mem_nil, or_false] at hx ⊢; rcases hx with h | h | h <;> simp [h]), stAt_mk hp (pairs_copy h1 hb3 hm2) h1 ⟨(hl p (by simp)).symm, hne, hl b2 (by simp)⟩ (fun x hx => ?_) hs hu hu, fun x hx => ?_⟩
  · have hx' : x ∈ rfoot m2 := by simpa using hx
    have h0 := hft x (by simp [hx'])
    have h5 := hq2.lt x hx'
    simp only [List.mem_cons, List.not_mem_nil, or_false, not_or] at h0 ⊢
    exact ⟨h0.1, by omega, h0.2.2⟩
  · simp only [List.mem_cons, List.mem_append, or_self] at hx ⊢
    rcases hx with h | h | h | h
    · exact .inl (.inl h)
    · exact .inr (by omega)
    · exact .inl (.inr (.inr (.inl h)))
    · exact .inl (.inr (.inr (.inr (.inr h))))
theorem cat_byte {w : World} {ps : List BRow} (hr : ∀ r ∈ ps, rowAt w r) : byteL (catL ps) := fun x hx => by
  obtain ⟨r, h1, h2⟩ := List.mem_flatMap.1 hx
  exact (hr r h1).byt x h2
theorem keyS : KeyL Try.prog 9 ekS := KeyL.str rfl
end Go.Proofs.Ytkhdliobbbmkoaa
