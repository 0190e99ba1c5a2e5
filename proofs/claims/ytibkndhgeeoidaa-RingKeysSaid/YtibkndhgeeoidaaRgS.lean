/- Contracts of functions of the program, each proved by a walk through its code; conditions stand in the statements. -/
import Derived.Test.YtibkndhgeeoidaaRgQ
namespace Go.Proofs.Ytibkndhgeeoidaa
set_option linter.unusedSimpArgs false
set_option linter.unusedVariables false
set_option linter.unusedSectionVars false
open Go Go.RowKit Go.Tw
set_option linter.unusedVariables false
set_option maxRecDepth 20000
/-! ### the owners of a key are all members, each once -/
def allP (key per : Int) (M : List Int) : List Int := uqF (rotM key (ringP per M))
theorem mem_uqF {m : Int} : ∀ {L : List Int}, m ∈ uqF L ↔ m ∈ L := by
  intro L
  induction h : L.length generalizing L with
  | zero => rw [List.length_eq_zero_iff] at h; subst h; simp [uqF]
  | succ n ih =>
    rcases List.eq_nil_or_concat L with rfl | ⟨L', x, rfl⟩
    · simp at h
    · rw [List.concat_eq_append] at h ⊢
      have := ih (L := L') (by simpa using h)
      rw [uqF_snoc]; unfold uqS; split
      · rename_i hc
        rw [List.contains_iff_mem] at hc
        rw [List.mem_append, List.mem_singleton, this]
        constructor
        · exact .inl
        · rintro (h | rfl)
          · exact h
          · exact this.1 hc
      · rw [List.mem_append, List.mem_append, this]
theorem uqF_nodup : ∀ (L : List Int), (uqF L).Nodup := by
  intro L
  induction h : L.length generalizing L with
  | zero => rw [List.length_eq_zero_iff] at h; subst h; simp [uqF]
  | succ n ih =>
    rcases List.eq_nil_or_concat L with rfl | ⟨L', x, rfl⟩
    · simp at h
    · rw [List.concat_eq_append] at h ⊢
      have := ih L' (by simpa using h)
      rw [uqF_snoc]; unfold uqS; split
      · exact this
      · rename_i hc
        rw [List.contains_iff_mem] at hc
        refine List.nodup_append.2 ⟨this, by simp, fun a ha b hb => ?_⟩
        simp at hb; subst hb
        exact fun e => hc (e ▸ ha)
theorem all_perm {key per : Int} {M : List Int} (h : goodR per M = 0) : (allP key per M).Perm M := by
  obtain ⟨h1, h2, h3, h4⟩ := good0 h
  refine (List.perm_ext_iff_of_nodup (uqF_nodup _) h4).2 fun m => ?_
  rw [mem_uqF, mem_rotM]
  constructor
  · rintro ⟨p, hp, rfl⟩; exact (mem_ringP.1 hp).1
  · exact fun hm => ⟨ptAt m 0, mem_ringP.2 ⟨hm, 0, by omega, rfl⟩, rfl⟩
theorem all_len {key per : Int} {M : List Int} (h : goodR per M = 0) : (allP key per M).length = M.length := (all_perm h).length_eq
theorem good_len {per : Int} {M : List Int} (h : goodR per M = 0) : M.length ≤ 64 := (good0 h).2.1
theorem own_take (key per n : Int) (M : List Int) : ownersP key n (ringP per M) = (allP key per M).take n.toNat := by
  unfold ownersP allP; split
  · rw [show n.toNat = 0 by omega, List.take_zero]
  · rfl
/-! without a member -/
theorem split_key (key : Int) : ∀ {pts : List (Int × Int)}, pts.Pairwise (fun a b => a.1 ≤ b.1) → pts = pts.filter (fun p => decide (p.1 < key)) ++ pts.filter (fun p => decide (key ≤ p.1))
  | [], _ => rfl
  | x :: r, h => by
    rw [List.pairwise_cons] at h
    by_cases hx : x.1 < key
    · rw [List.filter_cons_of_pos (by simpa using hx), List.filter_cons_of_neg (by simp; omega), List.cons_append, ← split_key key h.2]
    · rw [List.filter_cons_of_neg (by simpa using hx), List.filter_cons_of_pos (by simp; omega)]
      rw [show r.filter (fun p => decide (p.1 < key)) = [] from List.filter_eq_nil_iff.2 fun p hp => by have := h.1 p hp; simp; omega]
      rw [show r.filter (fun p => decide (key ≤ p.1)) = r from List.filter_eq_self.2 fun p hp => by have := h.1 p hp; simp; omega]
      rfl
theorem rot_split {key : Int} {pts : List (Int × Int)} (h : pts.Pairwise (fun a b => a.1 ≤ b.1)) : rotP (fromP key pts) pts = pts.filter (fun p => decide (key ≤ p.1)) ++ pts.filter (fun p => decide (p.1 < key)) := by
  have hs := split_key key h
  have hf : fromP key pts = (pts.filter fun p => decide (p.1 < key)).length := List.countP_eq_length_filter
  generalize hA : pts.filter (fun p => decide (p.1 < key)) = A at hs hf ⊢
  generalize hB : pts.filter (fun p => decide (key ≤ p.1)) = B at hs ⊢
  unfold rotP
  rw [hf, hs, List.drop_left, List.take_left]
theorem ringP_pw (per : Int) (M : List Int) : (ringP per M).Pairwise (fun a b => leP a b = true) := sortP_sorted _
theorem leP_fst {a b : Int × Int} (h : leP a b = true) : a.1 ≤ b.1 := by rw [leP_iff] at h; unfold ltP at h; omega
theorem Owners_take (G : List Nat) (p : Nat) (per : Int) (AP : Option Addr) (cP : Nat) (M : List Int) (AM : Option Addr) (cM : Nat) (key n : Int) (w : World) (hR : RingR w G p per AP cP (ringP per M) AM cM (sortI M)) (h0 : goodR per M = 0) : Calls Try.prog 14 #[.pointer (some ⟨p, 0, none⟩), .int .u64 key, .int .i64 n] w fun e w' => ∃ v, e = .returned v ∧ Fr w w' [] ∧ w'.ownsRow w.heap.size 3 1 v ((allP key per M).take n.toNat).length (((allP key per M).take n.toNat).flatMap (Go.Tw.encI .i64)) := by
  have h := Owners_ct G p per AP cP (ringP per M) AM cM (sortI M) key n w hR (risP_sort _) (ring_le h0)
  rw [own_take] at h; exact h
end Go.Proofs.Ytibkndhgeeoidaa
