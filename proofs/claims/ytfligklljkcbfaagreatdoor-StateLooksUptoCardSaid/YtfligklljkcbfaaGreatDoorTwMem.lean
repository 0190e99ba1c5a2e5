/- The walk's own words: memory: what a function tracks ('Cx'), what it leaves alone ('Fr'), loads, stores, new blocks. Over any program. -/
import Derived.Test.YtfligklljkcbfaaGreatDoorTw
import Derived.Test.YtfligklljkcbfaaGreatDoorTwDrn
namespace Go.Tw
set_option linter.unusedSimpArgs false
set_option linter.unusedVariables false
set_option linter.unusedSectionVars false
open Go.RowKit

/-! ### frames -/
structure Fr (w w' : World) (F : List Nat) : Prop where
  os : w'.os = w.os
  tape : w'.tape = w.tape
  output : w'.output = w.output
  size : w.heap.size ≤ w'.heap.size
  block : ∀ k, k < w.heap.size → k ∉ F → w'.heap[k]? = w.heap[k]?
  drawn : DR → w.drawn ≤ w'.drawn
theorem Fr.refl (w : World) (F : List Nat) : Fr w w F := ⟨rfl, rfl, rfl, Nat.le_refl _, fun _ _ _ => rfl, fun _ => Nat.le_refl _⟩
theorem Fr.trans {w w1 w2 : World} {F G : List Nat} (h : Fr w w1 F) (k : Fr w1 w2 G) (hG : ∀ x ∈ G, x ∈ F ∨ w.heap.size ≤ x) : Fr w w2 F :=
  ⟨k.os.trans h.os, k.tape.trans h.tape, k.output.trans h.output, Nat.le_trans h.size k.size, fun i hi hn =>
    (k.block i (Nat.lt_of_lt_of_le hi h.size) (fun hg => by rcases hG i hg with h1 | h1; exact hn h1; omega)).trans (h.block i hi hn), fun d => Nat.le_trans (h.drawn d) (k.drawn d)⟩
theorem Fr.mono {w w' : World} {F G : List Nat} (h : Fr w w' F) (hs : ∀ x ∈ F, x ∈ G) : Fr w w' G := ⟨h.os, h.tape, h.output, h.size, fun k hk hn => h.block k hk fun hf => hn (hs k hf), h.drawn⟩
theorem Fr.below {w w' : World} (h : Fr w w' []) : Below w.heap.size w w' := ⟨h.os, h.tape, h.output, h.size, fun k hk => h.block k hk (by simp)⟩
theorem Fr.of_below {w w' : World} (h : Below w.heap.size w w') (hd : DR → w.drawn ≤ w'.drawn) : Fr w w' [] := ⟨h.os, h.tape, h.output, h.size, fun k hk _ => h.block k hk, hd⟩
theorem Fr.alloc (w : World) (o : Obj) : Fr w (w.alloc o) [] := .of_below ((Below.refl _ _).alloc (Nat.le_refl _) o) (fun _ => Nat.le_refl _)
theorem Fr.drew (w : World) : Fr w w.drew [] := ⟨rfl, rfl, rfl, Nat.le_refl _, fun _ _ _ => rfl, fun _ => Nat.le_succ _⟩
theorem lt_of_heap {w : World} {b : Nat} {o : Obj} (h : w.heap[b]? = some o) : b < w.heap.size := (Array.getElem?_eq_some_iff.1 h).1
theorem Fr.has {w w' : World} {F : List Nat} (h : Fr w w' F) {b : Nat} {o : Obj} (hb : w.heap[b]? = some o) (hn : b ∉ F) : w'.heap[b]? = some o := (h.block b (lt_of_heap hb) hn).trans hb
theorem Fr.cell {w w' : World} {F : List Nat} (h : Fr w w' F) {a : Addr} {v : Value} (hc : w.cell? a = some v) (hn : a.block ∉ F) : w'.cell? a = some v := by
  have hb : a.block < w.heap.size := World.block_lt_of_cell? w a hc
  have he := h.block a.block hb hn
  unfold World.cell? at hc ⊢
  rw [he]; exact hc

/-! ### what a call tracks: M blocks known whole, Fs footprints of what is told by predicates; F0: the old blocks that it may change -/
theorem nodup_inj {M : List (Nat × Obj)} (hn : (M.map (·.1)).Nodup) {i j a : Nat} {o o' : Obj} (hi : M[i]? = some (a, o)) (hj : M[j]? = some (a, o')) : i = j := by
  obtain ⟨hi1, hi2⟩ := List.getElem?_eq_some_iff.1 hi
  obtain ⟨hj1, hj2⟩ := List.getElem?_eq_some_iff.1 hj
  have h1 : (M.map (·.1))[i]'(by simpa using hi1) = (M.map (·.1))[j]'(by simpa using hj1) := by simp [hi2, hj2]
  exact (List.getElem_inj hn).1 h1
structure Cx (w0 : World) (F0 : List Nat) (w : World) (M : List (Nat × Obj)) (Fs : List (List Nat)) : Prop where
  fr : Fr w0 w F0
  has : ∀ p ∈ M, w.heap[p.1]? = some p.2
  nodup : (M.map (·.1)).Nodup
  sep : Fs.Pairwise (fun A B => ∀ x ∈ A, x ∉ B)
  apart : ∀ F ∈ Fs, ∀ p ∈ M, p.1 ∉ F
  bound : ∀ F ∈ Fs, ∀ x ∈ F, x < w.heap.size
  ownM : ∀ p ∈ M, p.1 ∈ F0 ∨ w0.heap.size ≤ p.1
  ownF : ∀ F ∈ Fs, ∀ x ∈ F, x ∈ F0 ∨ w0.heap.size ≤ x
section
variable {w0 w w' : World} {F0 : List Nat} {M : List (Nat × Obj)} {Fs : List (List Nat)}
theorem Cx.start (w : World) : Cx w [] w [] [] := ⟨.refl _ _, by simp, by simp, by simp, by simp, by simp, by simp, by simp⟩
theorem Cx.start1 {F : List Nat} (w : World) (hb : ∀ x ∈ F, x < w.heap.size) : Cx w F w [] [F] :=
  ⟨.refl _ _, by simp, by simp, by simp, by simp, by simpa using hb, by simp, by simp; exact fun x hx => .inl hx⟩
theorem Cx.lt (h : Cx w0 F0 w M Fs) {p : Nat × Obj} (hp : p ∈ M) : p.1 < w.heap.size := lt_of_heap (h.has p hp)
theorem Cx.get (h : Cx w0 F0 w M Fs) (k : Nat) {b : Nat} {o : Obj} (hk : M[k]? = some (b, o)) : w.heap[b]? = some o := h.has (b, o) (List.mem_of_getElem? hk)
theorem Cx.new_ge (h : Cx w0 F0 w M Fs) (k : Nat) {b : Nat} {o : Obj} (hk : M[k]? = some (b, o)) : b ∈ F0 ∨ w0.heap.size ≤ b := h.ownM (b, o) (List.mem_of_getElem? hk)
/-- whatever leaves all but F alone, F away from what is tracked -/
theorem Cx.frame {F : List Nat} (h : Cx w0 F0 w M Fs) (hf : Fr w w' F) (hM : ∀ p ∈ M, p.1 ∉ F) (hF : ∀ x ∈ F, x ∈ F0 ∨ w0.heap.size ≤ x) : Cx w0 F0 w' M Fs :=
  ⟨h.fr.trans hf hF, fun p hp => hf.has (h.has p hp) (hM p hp), h.nodup, h.sep, h.apart, fun F hF x hx => Nat.lt_of_lt_of_le (h.bound F hF x hx) hf.size, h.ownM, h.ownF⟩
theorem Cx.call (h : Cx w0 F0 w M Fs) (hf : Fr w w' []) : Cx w0 F0 w' M Fs := h.frame hf (by simp) (by simp)
theorem Cx.drew (h : Cx w0 F0 w M Fs) : Cx w0 F0 w.drew M Fs := h.call (.drew w)
theorem nodup_snoc {l : List Nat} {x : Nat} (h : l.Nodup) (hx : x ∉ l) : (l ++ [x]).Nodup := by
  rw [List.nodup_append]
  exact ⟨h, by simp, fun a ha b hb => by simp at hb; subst hb; exact fun e => hx (e ▸ ha)⟩
/-- a call that leaves all alone and makes a block that is known whole -/
theorem Cx.callB (h : Cx w0 F0 w M Fs) (hf : Fr w w' []) {g : Nat} {o : Obj} (hg : w.heap.size ≤ g) (ho : w'.heap[g]? = some o) : Cx w0 F0 w' (M ++ [(g, o)]) Fs := by
  have h1 := h.call hf
  refine ⟨h1.fr, ?_, ?_, h1.sep, ?_, h1.bound, ?_, h1.ownF⟩
  · intro p hp
    rcases List.mem_append.1 hp with hp | hp
    · exact h1.has p hp
    · simp at hp; subst hp; exact ho
  · rw [List.map_append]
    exact nodup_snoc h.nodup fun hm => by
      obtain ⟨p, hp, he⟩ := List.mem_map.1 hm
      have := h.lt hp; simp at he; omega
  · intro F hF p hp
    rcases List.mem_append.1 hp with hp | hp
    · exact h.apart F hF p hp
    · simp at hp; subst hp
      intro hx
      have := h.bound F hF _ hx
      simp at this; omega
  · intro p hp
    rcases List.mem_append.1 hp with hp | hp
    · exact h.ownM p hp
    · simp at hp; subst hp
      exact .inr (Nat.le_trans h.fr.size hg)
theorem Cx.alloc (h : Cx w0 F0 w M Fs) (o : Obj) : Cx w0 F0 (w.alloc o) (M ++ [(w.heap.size, o)]) Fs :=
  h.callB (.alloc w o) (Nat.le_refl _) (by show (w.heap.push o)[w.heap.size]? = some o; simp)
/-- .. that makes something that is told by a predicate with its footprint -/
theorem Cx.callN (h : Cx w0 F0 w M Fs) (hf : Fr w w' []) {G : List Nat} (hg : ∀ x ∈ G, w.heap.size ≤ x) (hb : ∀ x ∈ G, x < w'.heap.size) : Cx w0 F0 w' M (Fs ++ [G]) := by
  have h1 := h.call hf
  refine ⟨h1.fr, h1.has, h.nodup, ?_, ?_, ?_, h.ownM, ?_⟩
  · rw [List.pairwise_append]
    refine ⟨h.sep, by simp, fun A hA B hB x hx hxB => ?_⟩
    simp at hB; subst hB
    have := h.bound A hA x hx
    have := hg x hxB
    omega
  · intro F hF p hp
    rcases List.mem_append.1 hF with hF | hF
    · exact h.apart F hF p hp
    · simp at hF; subst hF
      intro hx
      have := h.lt hp
      have := hg _ hx
      omega
  · intro F hF x hx
    rcases List.mem_append.1 hF with hF | hF
    · exact h1.bound F hF x hx
    · simp at hF; subst hF; exact hb x hx
  · intro F hF x hx
    rcases List.mem_append.1 hF with hF | hF
    · exact h.ownF F hF x hx
    · simp at hF; subst hF; exact .inr (Nat.le_trans h.fr.size (hg x hx))
/-- a call that changes what footprint number j tells -/
theorem Cx.callF (h : Cx w0 F0 w M Fs) (j : Nat) {F F' : List Nat} (hj : Fs[j]? = some F) (hf : Fr w w' F) (hF' : ∀ x ∈ F', x ∈ F ∨ w.heap.size ≤ x) (hb : ∀ x ∈ F', x < w'.heap.size) : Cx w0 F0 w' M (Fs.set j F') := by
  have hFm : F ∈ Fs := List.mem_of_getElem? hj
  have h1 : Cx w0 F0 w' M Fs := h.frame hf (fun p hp => h.apart F hFm p hp) (fun x hx => h.ownF F hFm x hx)
  have hlt : j < Fs.length := (List.getElem?_eq_some_iff.1 hj).1
  have mem : ∀ G ∈ Fs.set j F', G = F' ∨ ∃ i, i ≠ j ∧ Fs[i]? = some G := by
    intro G hG
    obtain ⟨i, hi⟩ := List.getElem?_of_mem hG
    by_cases e : i = j
    · subst e; rw [List.getElem?_set_self hlt] at hi; exact .inl (by simpa using hi.symm)
    · rw [List.getElem?_set_ne (Ne.symm e)] at hi; exact .inr ⟨i, e, hi⟩
  have away : ∀ i G, i ≠ j → Fs[i]? = some G → ∀ x ∈ F', x ∉ G := by
    intro i G hij hG x hx hxG
    rcases hF' x hx with h2 | h2
    · have hp := List.pairwise_iff_getElem.1 h.sep
      obtain ⟨hi, rfl⟩ := List.getElem?_eq_some_iff.1 hG
      obtain ⟨hj', rfl⟩ := List.getElem?_eq_some_iff.1 hj
      rcases Nat.lt_or_gt_of_ne hij with hl | hl
      · exact hp i j hi hj' hl x hxG h2
      · exact hp j i hj' hi hl x h2 hxG
    · have := h.bound G (List.mem_of_getElem? hG) x hxG; omega
  refine ⟨h1.fr, h1.has, h.nodup, ?_, ?_, ?_, h.ownM, ?_⟩
  · rw [List.pairwise_iff_getElem]
    intro a b ha hb' hab x hx
    rw [List.length_set] at ha hb'
    rw [List.getElem_set] at hx ⊢
    have hp := List.pairwise_iff_getElem.1 h.sep
    split at hx
    · rename_i e; subst e
      rw [if_neg (by omega)]
      exact away b _ (by omega) (List.getElem?_eq_getElem hb') x hx
    · split
      · rename_i e; subst e
        exact fun hxF => away a _ (by omega) (List.getElem?_eq_getElem ha) x hxF hx
      · exact hp a b ha hb' hab x hx
  · intro G hG p hp
    rcases mem G hG with rfl | ⟨i, _, hi⟩
    · intro hx
      rcases hF' _ hx with h2 | h2
      · exact h.apart F hFm p hp h2
      · have := h.lt hp; omega
    · exact h.apart G (List.mem_of_getElem? hi) p hp
  · intro G hG x hx
    rcases mem G hG with rfl | ⟨i, _, hi⟩
    · exact hb x hx
    · exact h1.bound G (List.mem_of_getElem? hi) x hx
  · intro G hG x hx
    rcases mem G hG with rfl | ⟨i, _, hi⟩
    · rcases hF' x hx with h2 | h2
      · exact h.ownF F hFm x h2
      · exact .inr (Nat.le_trans h.fr.size h2)
    · exact h.ownF G (List.mem_of_getElem? hi) x hx
/-- block number k of M is changed (by a store, by a call) -/
theorem Cx.callM (h : Cx w0 F0 w M Fs) (k : Nat) {b : Nat} {o o' : Obj} (hk : M[k]? = some (b, o)) (hf : Fr w w' [b]) (ho : w'.heap[b]? = some o') : Cx w0 F0 w' (M.set k (b, o')) Fs := by
  have hm := List.mem_of_getElem? hk
  have hlt : k < M.length := (List.getElem?_eq_some_iff.1 hk).1
  have hkeys : (M.set k (b, o')).map (·.1) = M.map (·.1) := by
    rw [List.map_set]
    obtain ⟨hlt, he⟩ := List.getElem?_eq_some_iff.1 hk
    apply List.ext_getElem?
    intro i
    rw [List.getElem?_set]
    split
    · rename_i e; subst e; simp [hlt, he]
    · rfl
  have mem : ∀ p ∈ M.set k (b, o'), p = (b, o') ∨ (p ∈ M ∧ p.1 ≠ b) := by
    intro p hp
    obtain ⟨i, hi⟩ := List.getElem?_of_mem hp
    by_cases e : i = k
    · subst e; rw [List.getElem?_set_self hlt] at hi; exact .inl (by simpa using hi.symm)
    · rw [List.getElem?_set_ne (Ne.symm e)] at hi
      refine .inr ⟨List.mem_of_getElem? hi, fun he => e ?_⟩
      obtain ⟨a, oa⟩ := p
      simp at he
      subst he
      exact nodup_inj h.nodup hi hk
  have hF0 : ∀ x ∈ [b], x ∈ F0 ∨ w0.heap.size ≤ x := fun x hx => by simp at hx; subst hx; exact h.ownM _ hm
  refine ⟨h.fr.trans hf hF0, ?_, by rw [hkeys]; exact h.nodup, h.sep, ?_, fun F hF x hx => Nat.lt_of_lt_of_le (h.bound F hF x hx) hf.size, ?_, h.ownF⟩
  · intro p hp
    rcases mem p hp with rfl | ⟨hp, hne⟩
    · exact ho
    · exact hf.has (h.has p hp) (by simpa using hne)
  · intro F hF p hp
    rcases mem p hp with rfl | ⟨hp, _⟩
    · exact h.apart F hF (b, o) hm
    · exact h.apart F hF p hp
  · intro p hp
    rcases mem p hp with rfl | ⟨hp, _⟩
    · exact h.ownM (b, o) hm
    · exact h.ownM p hp
/-- what is tracked no more -/
theorem Cx.sub {M' : List (Nat × Obj)} {Fs' : List (List Nat)} (h : Cx w0 F0 w M Fs) (hM : M'.Sublist M) (hF : Fs'.Sublist Fs) : Cx w0 F0 w M' Fs' :=
  ⟨h.fr, fun p hp => h.has p (hM.subset hp), (hM.map _).nodup h.nodup, h.sep.sublist hF, fun F hF' p hp => h.apart F (hF.subset hF') p (hM.subset hp), fun F hF' => h.bound F (hF.subset hF'), fun p hp => h.ownM p (hM.subset hp), fun F hF' => h.ownF F (hF.subset hF')⟩
def pick {α : Type} : List Nat → List α → List α
  | [], _ => []
  | _, [] => []
  | 0 :: is, x :: l => x :: pick (is.map (· - 1)) l
  | is, _ :: l => pick (is.map (· - 1)) l
theorem pick_sub {α : Type} : ∀ (l : List α) (is : List Nat), (pick is l).Sublist l
  | [], is => by cases is <;> simp [pick]
  | x :: l, [] => by simp [pick]
  | x :: l, 0 :: is => by simp only [pick]; exact (pick_sub l _).cons_cons x
  | x :: l, (k + 1) :: is => by simp only [pick]; exact (pick_sub l _).cons x
theorem Cx.pick (is js : List Nat) {M' : List (Nat × Obj)} {Fs' : List (List Nat)} (h : Cx w0 F0 w M Fs) (hM : Tw.pick is M = M') (hF : Tw.pick js Fs = Fs') : Cx w0 F0 w M' Fs' := by
  subst hM hF; exact h.sub (pick_sub _ _) (pick_sub _ _)
/-- a block known whole becomes a footprint -/
theorem Cx.toF (h : Cx w0 F0 w M Fs) (k : Nat) {b : Nat} {o : Obj} (hk : M[k]? = some (b, o)) : Cx w0 F0 w (M.eraseIdx k) (Fs ++ [[b]]) := by
  have hm := List.mem_of_getElem? hk
  have hs := List.eraseIdx_sublist M k
  have h1 := h.sub hs (List.Sublist.refl Fs)
  have hne : ∀ p ∈ M.eraseIdx k, p.1 ≠ b := by
    intro p hp he
    obtain ⟨i, hik, hi⟩ := List.mem_eraseIdx_iff_getElem?.1 hp
    obtain ⟨a, oa⟩ := p
    simp at he
    subst he
    exact hik (nodup_inj h.nodup hi hk)
  refine ⟨h.fr, h1.has, h1.nodup, ?_, ?_, ?_, h1.ownM, ?_⟩
  · rw [List.pairwise_append]
    refine ⟨h.sep, by simp, fun A hA B hB x hx hxB => ?_⟩
    simp at hB; subst hB; simp at hxB; subst hxB
    exact h.apart A hA _ hm hx
  · intro F hF p hp
    rcases List.mem_append.1 hF with hF | hF
    · exact h1.apart F hF p hp
    · simp at hF; subst hF; simpa using hne p hp
  · intro F hF x hx
    rcases List.mem_append.1 hF with hF | hF
    · exact h.bound F hF x hx
    · simp at hF; subst hF; simp at hx; subst hx; exact h.lt hm
  · intro F hF x hx
    rcases List.mem_append.1 hF with hF | hF
    · exact h.ownF F hF x hx
    · simp at hF; subst hF; simp at hx; subst hx; exact h.ownM _ hm
theorem Cx.ne (h : Cx w0 F0 w M Fs) (i j : Nat) {a b : Nat} {o o' : Obj} (hi : M[i]? = some (a, o)) (hj : M[j]? = some (b, o')) (hij : i ≠ j) : a ≠ b := by
  intro e
  subst e
  exact hij (nodup_inj h.nodup hi hj)
theorem Cx.disj (h : Cx w0 F0 w M Fs) (i j : Nat) {A B : List Nat} (hi : Fs[i]? = some A) (hj : Fs[j]? = some B) (hij : i ≠ j) : ∀ x ∈ A, x ∉ B := by
  intro x hx hxB
  have hp := List.pairwise_iff_getElem.1 h.sep
  obtain ⟨hi1, rfl⟩ := List.getElem?_eq_some_iff.1 hi
  obtain ⟨hj1, rfl⟩ := List.getElem?_eq_some_iff.1 hj
  rcases Nat.lt_or_gt_of_ne hij with hl | hl
  · exact hp i j hi1 hj1 hl x hx hxB
  · exact hp j i hj1 hi1 hl x hxB hx
end

/-! ### loads and stores -/
section
variable {P : Program} {w : World}
def aggB (P : Program) (t : TypeId) : Option Bool := match P.underlying t with
  | some (.struct _) => some true
  | some (.array _ _) => some true
  | some _ => some false
  | none => none
theorem run_isAgg {t : TypeId} {b : Bool} (h : aggB P t = some b) : (isAgg t).run P w = .ok b w := by
  unfold aggB at h
  cases hu : P.underlying t with
  | none => rw [hu] at h; cases h
  | some d =>
    rw [hu] at h
    have : (underlying t).run P w = .ok d w := run_underlying hu w
    unfold isAgg
    simp only [Sem.run_bind, this]
    cases d <;> simp_all <;> subst h <;> rfl
def ld (P : Program) (t : TypeId) (c : Array Value) (off : Nat) : Option Value := match aggB P t with
  | some false => c[off]?
  | some true => bif Nat.ble (off + P.cellsOf t) c.size then some (.agg (c.extract off (off + P.cellsOf t))) else none
  | none => none
theorem add_at (b off j : Nat) : (⟨b, off, none⟩ : Addr).add j = ⟨b, off + j, none⟩ := by
  unfold Addr.add; split <;> simp_all
theorem cell_blk {b : Nat} {c : Array Value} {T : TypeId} {fz : Nat × Nat} (h : w.heap[b]? = some (.cells c T fz)) (off : Nat) : w.cell? ⟨b, off, none⟩ = c[off]? := by
  simp [World.cell?, h]
theorem run_loadCells {b off : Nat} {cs : Array Value} (hc : ∀ j, j < cs.size → w.cell? ⟨b, off + j, none⟩ = cs[j]?) :
    (loadCells ⟨b, off, none⟩ cs.size).run P w = .ok cs w := by
  have key : ∀ (n i : Nat) (acc : Array Value), i + n = cs.size → acc = cs.extract 0 i → (loadCellsFrom ⟨b, off, none⟩ i n acc).run P w = .ok cs w := by
    intro n
    induction n with
    | zero => intro i acc hi ha; simp only [loadCellsFrom]; subst ha; rw [show i = cs.size from by omega]; simp
    | succ n ih =>
      intro i acc hi ha
      have hlt : i < cs.size := by omega
      simp only [loadCellsFrom]
      have hl : (load ((⟨b, off, none⟩ : Addr).add i)).run P w = .ok cs[i] w := by
        unfold load
        rw [add_at]
        simp [Sem.run, hc i hlt, hlt]
      rw [Sem.run_bind, hl]
      refine ih (i + 1) _ (by omega) ?_
      subst ha
      rw [Array.push_extract_getElem hlt]
      simp
  exact key cs.size 0 #[] (by simp) (by simp)
theorem run_load1 {t : TypeId} {b off : Nat} {v : Value} (ht : aggB P t = some false) (hc : w.cell? ⟨b, off, none⟩ = some v) :
    (Instr.loadAt t (.pointer (some ⟨b, off, none⟩))).run P w = .ok v w := by
  unfold Instr.loadAt Instr.sureAddr loadVar
  simp only [Sem.run_bind, Sem.run_pure, run_isAgg ht]
  simp [load, Sem.run, hc]
theorem run_loadN {t : TypeId} {b off : Nat} {cs : Array Value} (ht : aggB P t = some true) (hn : P.cellsOf t = cs.size) (hc : ∀ j, j < cs.size → w.cell? ⟨b, off + j, none⟩ = cs[j]?) :
    (Instr.loadAt t (.pointer (some ⟨b, off, none⟩))).run P w = .ok (.agg cs) w := by
  have hi : ∃ i, P.info? t = some i ∧ i.size = cs.size := by
    unfold Program.cellsOf at hn
    cases h : P.info? t with
    | none =>
      exfalso
      unfold aggB Program.underlying at ht
      rw [h] at ht
      cases ht
    | some i => rw [h] at hn; exact ⟨i, rfl, by simpa using hn⟩
  obtain ⟨i, hi, hs⟩ := hi
  unfold Instr.loadAt Instr.sureAddr loadVar
  simp only [Sem.run_bind, Sem.run_pure, run_isAgg ht]
  have hsz : (sizeOf t).run P w = .ok cs.size w := by
    unfold sizeOf
    rw [Sem.run_bind]
    simp [typeInfo, program, Sem.run, hi, hs]
  simp only [Result.andThen_ok, if_true, Sem.run_bind, hsz, run_loadCells hc, Sem.run_pure]
theorem run_ld {t : TypeId} {b off : Nat} {c : Array Value} {T : TypeId} {fz : Nat × Nat} {v : Value} (h : w.heap[b]? = some (.cells c T fz)) (hv : ld P t c off = some v) :
    (Instr.loadAt t (.pointer (some ⟨b, off, none⟩))).run P w = .ok v w := by
  unfold ld at hv
  split at hv
  · rename_i ht
    exact run_load1 ht (by rw [cell_blk h]; exact hv)
  · rename_i ht
    cases hb : Nat.ble (off + P.cellsOf t) c.size
    · rw [hb] at hv; simp at hv
    · rw [hb] at hv
      simp only [cond_true, Option.some.injEq] at hv
      subst hv
      have hle : off + P.cellsOf t ≤ c.size := Nat.le_of_ble_eq_true hb
      refine run_loadN ht (by simp; omega) fun j hj => ?_
      rw [cell_blk h]
      simp at hj
      rw [Array.getElem?_extract]
      simp; omega
  · cases hv

def putRow (w : World) (b : Nat) (o : Obj) : World := { w with heap := w.heap.setIfInBounds b o }
theorem putRow_same {b : Nat} {o : Obj} (hb : b < w.heap.size) : (putRow w b o).heap[b]? = some o := by simp [putRow, hb]
theorem putRow_fr (b : Nat) (o : Obj) : Fr w (putRow w b o) [b] :=
  ⟨rfl, rfl, rfl, by simp [putRow], fun k _ hn => by simp at hn; simp only [putRow]; rw [Array.getElem?_setIfInBounds_ne (Ne.symm hn)], fun _ => Nat.le_refl _⟩
theorem putRow_putRow (b : Nat) (o o' : Obj) : putRow (putRow w b o) b o' = putRow w b o' := by
  simp [putRow]
theorem putRow_id {b : Nat} {o : Obj} (h : w.heap[b]? = some o) : putRow w b o = w := by
  have : w.heap.setIfInBounds b o = w.heap := by
    apply Array.ext_getElem?
    intro i
    rw [Array.getElem?_setIfInBounds]
    split
    · rename_i e; subst e
      obtain ⟨h1, h2⟩ := Array.getElem?_eq_some_iff.1 h
      simp [h1, h2]
    · rfl
  simp [putRow, this]
theorem setCell_putRow {b off : Nat} {c : Array Value} {T : TypeId} {fz : Nat × Nat} (h : w.heap[b]? = some (.cells c T fz)) (v : Value) :
    w.setCell ⟨b, off, none⟩ v = putRow w b (.cells (c.setIfInBounds off v) T fz) := by
  obtain ⟨hb, he⟩ := Array.getElem?_eq_some_iff.1 h
  simp only [World.setCell, putRow]
  congr 1
  apply Array.ext_getElem?
  intro i
  rw [Array.getElem?_modify, Array.getElem?_setIfInBounds]
  split
  · rename_i e; subst e; simp [hb, he]
  · rfl
def oneB : Value → Bool | .agg _ => false | .tuple _ => false | _ => true
def setMany (c : Array Value) (off : Nat) : List Value → Array Value
  | [] => c
  | v :: r => setMany (c.setIfInBounds off v) (off + 1) r
theorem setMany_size : ∀ (l : List Value) (c : Array Value) (off : Nat), (setMany c off l).size = c.size
  | [], _, _ => rfl
  | v :: r, c, off => by simp [setMany, setMany_size r]
theorem run_storeCells {b off : Nat} {T : TypeId} {fz : Nat × Nat} : ∀ (vs : List Value) (i : Nat) (c : Array Value) (w : World), w.heap[b]? = some (.cells c T fz) → off + i + vs.length ≤ c.size →
    vs.all oneB = true → (∀ j, off + i ≤ j → j < off + i + vs.length → ¬ (fz.1 ≤ j ∧ j < fz.2)) →
    (storeCells ⟨b, off, none⟩ vs i).run P w = .ok () (putRow w b (.cells (setMany c (off + i) vs) T fz))
  | [], i, c, w, h, _, _, _ => by
    simp only [storeCells, setMany, Sem.run_pure]
    rw [putRow_id h]
  | v :: r, i, c, w, h, hsz, hone, hfz => by
    have hlt : off + i < c.size := by simp at hsz; omega
    have hv : oneB v = true := by simp at hone; exact hone.1
    have hcell : w.cell? ⟨b, off + i, none⟩ = some c[off + i] := by rw [cell_blk h]; simp [hlt]
    have hfro : w.frozen? ⟨b, off + i, none⟩ = false := by
      have := hfz (off + i) (Nat.le_refl _) (by simp)
      obtain ⟨lo, hi⟩ := fz
      simp [World.frozen?, h]
      simp at this
      omega
    have hst : (store ((⟨b, off, none⟩ : Addr).add i) v).run P w = .ok () (w.setCell ⟨b, off + i, none⟩ v) := by
      rw [add_at]
      unfold store
      cases v <;> simp [Sem.run, hcell, hfro, oneB] at hv ⊢
    simp only [storeCells, Sem.run_bind, hst, Result.andThen_ok]
    rw [setCell_putRow h]
    have h2 : (putRow w b (.cells (c.setIfInBounds (off + i) v) T fz)).heap[b]? = some (.cells (c.setIfInBounds (off + i) v) T fz) := putRow_same (lt_of_heap h)
    rw [run_storeCells r (i + 1) _ _ h2 (by simp at hsz ⊢; omega) (by simp at hone ⊢; exact hone.2) (fun j h1 h2 => hfz j (by omega) (by simp; omega))]
    rw [putRow_putRow]
    simp only [setMany, Nat.add_assoc]
def freeB (fz : Nat × Nat) (off m : Nat) : Bool := Nat.ble fz.2 off || Nat.ble (off + m) fz.1
def st (P : Program) (t : TypeId) (c : Array Value) (off : Nat) (v : Value) (fz : Nat × Nat) : Option (Array Value) :=
  bif Nat.beq v.cells.size (P.cellsOf t) && Nat.ble (off + v.cells.size) c.size && v.cells.toList.all oneB && freeB fz off v.cells.size && (P.info? t).isSome then some (setMany c off v.cells.toList) else none
theorem run_st {t : TypeId} {b off : Nat} {c c' : Array Value} {T : TypeId} {fz : Nat × Nat} {v : Value} (h : w.heap[b]? = some (.cells c T fz)) (hv : st P t c off v fz = some c') :
    (Instr.storeAt t (.pointer (some ⟨b, off, none⟩)) v).run P w = .ok () (putRow w b (.cells c' T fz)) := by
  unfold st at hv
  cases hb : (Nat.beq v.cells.size (P.cellsOf t) && Nat.ble (off + v.cells.size) c.size && v.cells.toList.all oneB && freeB fz off v.cells.size && (P.info? t).isSome)
  · rw [hb] at hv; simp at hv
  · rw [hb] at hv
    simp only [cond_true, Option.some.injEq] at hv
    subst hv
    simp only [Bool.and_eq_true] at hb
    obtain ⟨⟨⟨⟨h1, h2⟩, h3⟩, h4⟩, h5⟩ := hb
    have h1' : v.cells.size = P.cellsOf t := Nat.eq_of_beq_eq_true h1
    have h2' := Nat.le_of_ble_eq_true h2
    obtain ⟨i, hi⟩ := Option.isSome_iff_exists.1 h5
    have hs : i.size = v.cells.size := by rw [h1']; simp [Program.cellsOf, hi]
    have hsz : (sizeOf t).run P w = .ok v.cells.size w := by
      unfold sizeOf
      rw [Sem.run_bind]
      simp [typeInfo, program, Sem.run, hi, hs]
    unfold Instr.storeAt Instr.sureAddr storeVar
    simp only [Sem.run_bind, Sem.run_pure, Result.andThen_ok, hsz, ne_eq, not_true_eq_false, if_false]
    have := run_storeCells (P := P) (b := b) (off := off) (T := T) (fz := fz) v.cells.toList 0 c w h (by simpa using h2') h3 (fun j ha hb => by
      unfold freeB at h4
      simp only [Bool.or_eq_true] at h4
      rcases h4 with h4 | h4
      · have := Nat.le_of_ble_eq_true h4; simp at ha hb; omega
      · have := Nat.le_of_ble_eq_true h4; simp at ha hb; omega)
    simpa using this
end

/-! ### at an operation -/
/-- what operation i asks of memory, if it is wanted and its operands are known -/
inductive Ask' where
  | load (t : TypeId) (a : Value) (d : Nat)
  | store (t : TypeId) (a v : Value)
def askE (n : Nat) (ops : Array Oper) (i : Nat) (E : Env) : Option Ask' :=
  match ops[i]? with
  | none => none
  | some o => match wantE ops E o with
    | some true => bif known E o.op then match o.op, o.dst with
        | .load t x, some d => bif Nat.blt d n then some (.load t (rho E x) d) else none
        | .store t x y, none => some (.store t (rho E x) (rho E y))
        | _, _ => none
      else none
    | _ => none
section
variable {P : Program} {n : Nat} {ops : Array Oper} {Q : Exit → Act → World → Prop} {i : Nat} {E E' : Env} {w w' w0 : World} {F0 : List Nat} {M : List (Nat × Obj)} {Fs : List (List Nat)}
theorem askE_load {t : TypeId} {a : Value} {d : Nat} (h : askE n ops i E = some (.load t a d)) :
    ∃ o x, ops[i]? = some o ∧ wantE ops E o = some true ∧ known E o.op = true ∧ o.op = .load t x ∧ o.dst = some d ∧ d < n ∧ rho E x = a := by
  unfold askE at h
  split at h
  · cases h
  · rename_i o ho
    split at h
    · rename_i hw
      cases hk : known E o.op
      · rw [hk] at h; simp at h
      · rw [hk] at h
        simp only [cond_true] at h
        split at h
        · rename_i t' x d' hop hdst
          cases hb : Nat.blt d' n
          · rw [hb] at h; simp at h
          · rw [hb] at h
            simp only [cond_true, Option.some.injEq, Ask'.load.injEq] at h
            obtain ⟨rfl, rfl, rfl⟩ := h
            exact ⟨o, x, ho, hw, hk, hop, hdst, lt_of_blt hb, rfl⟩
        · simp at h
        · cases h
    · cases h
theorem askE_store {t : TypeId} {a v : Value} (h : askE n ops i E = some (.store t a v)) :
    ∃ o x y, ops[i]? = some o ∧ wantE ops E o = some true ∧ known E o.op = true ∧ o.op = .store t x y ∧ o.dst = none ∧ rho E x = a ∧ rho E y = v := by
  unfold askE at h
  split at h
  · cases h
  · rename_i o ho
    split at h
    · rename_i hw
      cases hk : known E o.op
      · rw [hk] at h; simp at h
      · rw [hk] at h
        simp only [cond_true] at h
        split at h
        · rename_i t' x d' hop hdst
          cases hb : Nat.blt d' n
          · rw [hb] at h; simp at h
          · rw [hb] at h; simp at h
        · rename_i t' x y hop hdst
          simp only [Option.some.injEq, Ask'.store.injEq] at h
          obtain ⟨rfl, rfl, rfl⟩ := h
          exact ⟨o, x, y, ho, hw, hk, hop, hdst, rfl, rfl⟩
        · cases h
    · cases h
theorem load_run {o : Oper} {t : TypeId} {x : Operand} {v : Value} (hop : o.op = .load t x) (hl : (Instr.loadAt t (rho E x)).run P w = .ok v w) : (execOp (rho E) o).run P w = .ok (.value v) w := by
  unfold execOp
  simp only [hop, Sem.run_bind, hl, Result.andThen_ok, Sem.run_pure]
theorem store_run {o : Oper} {t : TypeId} {x y : Operand} (hop : o.op = .store t x y) (hl : (Instr.storeAt t (rho E x) (rho E y)).run P w = .ok () w') : (execOp (rho E) o).run P w = .ok .skip w' := by
  unfold execOp
  simp only [hop, Sem.run_bind, hl, Result.andThen_ok, Sem.run_pure]
/-- a load, by a fact on its run -/
theorem WL.load (t : TypeId) (a v : Value) (d : Nat) (hq : askE n ops i E = some (.load t a d)) (hl : (Instr.loadAt t a).run P w = .ok v w) (h : WL P n ops Q (i + 1) ((d, v) :: E) w) : WL P n ops Q i E w := by
  obtain ⟨o, x, ho, hw, hk, hop, hdst, hd, rfl⟩ := askE_load hq
  refine WL.value ho hw hk (fun z hz => by rw [hdst] at hz; cases hz; exact hd) (load_run hop hl) ?_
  rw [hdst]; exact h
theorem WLo (t : TypeId) (a v : Value) (d : Nat) (hl : (Instr.loadAt t a).run P w = .ok v w) (h : WL P n ops Q (i + 1) ((d, v) :: E) w) (hq : askE n ops i E = some (.load t a d) := by kernel_rfl) : WL P n ops Q i E w := WL.load t a v d hq hl h
/-- a store into block number k of what is tracked -/
theorem WLs (hC : Cx w0 F0 w M Fs) (k : Nat) (t : TypeId) (b off : Nat) (v : Value) {c c' : Array Value} {T : TypeId} {fz : Nat × Nat} (hq : askE n ops i E = some (.store t (.pointer (some ⟨b, off, none⟩)) v)) (hk : M[k]? = some (b, .cells c T fz)) (hv : st P t c off v fz = some c')
    (h : ∀ w', Fr w w' [b] → Cx w0 F0 w' (M.set k (b, .cells c' T fz)) Fs → WL P n ops Q (i + 1) E w') : WL P n ops Q i E w := by
  obtain ⟨o, x, y, ho, hw, hk', hop, hdst, hx, rfl⟩ := askE_store hq
  have hb := hC.get k hk
  have hr := run_st (P := P) hb hv
  rw [← hx] at hr
  refine WL.unit ho hw hk' (fun z hz => by rw [hdst] at hz; cases hz) (store_run hop hr) ?_
  rw [hdst]
  exact h _ (putRow_fr b _) (hC.callM k hk (putRow_fr b _) (putRow_same (lt_of_heap hb)))
theorem WLv (hC : Cx w0 F0 w M Fs) (k : Nat) (t : TypeId) (b off : Nat) (v : Value) {c c' : Array Value} {T : TypeId} {fz : Nat × Nat} (h : ∀ w', Fr w w' [b] → Cx w0 F0 w' (M.set k (b, .cells c' T fz)) Fs → WL P n ops Q (i + 1) E w') (hq : askE n ops i E = some (.store t (.pointer (some ⟨b, off, none⟩)) v) := by kernel_rfl) (hk : M[k]? = some (b, .cells c T fz) := by exact rfl) (hv : st P t c off v fz = some c' := by kernel_rfl) : WL P n ops Q i E w := WLs hC k t b off v hq hk hv h
/-- a new block, whatever makes it: the step, reckoned -/
theorem WL.newM (hC : Cx w0 F0 w M Fs) (mk : Nat → Value) (o : Obj) (d : Nat) (hs : ∀ w, stepE P n ops i E w = some ((d, mk w.heap.size) :: E, { w with heap := w.heap.push o }))
    (h : ∀ b w', w.heap.size ≤ b → Fr w w' [] → Cx w0 F0 w' (M ++ [(b, o)]) Fs → WL P n ops Q (i + 1) ((d, mk b) :: E) w') : WL P n ops Q i E w :=
  WL.step (hs w) (h _ _ (Nat.le_refl _) (.alloc w o) (hC.alloc o))
theorem WLb (hC : Cx w0 F0 w M Fs) (o : Obj) (d : Nat) (h : ∀ b w', w.heap.size ≤ b → Fr w w' [] → Cx w0 F0 w' (M ++ [(b, o)]) Fs → WL P n ops Q (i + 1) ((d, .pointer (some ⟨b, 0, none⟩)) :: E) w') (hs : ∀ w, stepE P n ops i E w = some ((d, (fun b => Value.pointer (some ⟨b, 0, none⟩)) w.heap.size) :: E, { w with heap := w.heap.push o }) := by intro _; kernel_rfl) : WL P n ops Q i E w := WL.newM hC (fun b => .pointer (some ⟨b, 0, none⟩)) o d hs h
end
end Go.Tw
