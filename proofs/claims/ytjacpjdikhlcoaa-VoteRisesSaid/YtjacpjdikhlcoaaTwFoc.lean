/- The walk's own words: a block comes out of a footprint, and goes back. Over any program. -/
import Derived.Test.YtjacpjdikhlcoaaTwClr
namespace Go.Tw
set_option linter.unusedSimpArgs false
set_option linter.unusedVariables false
set_option linter.unusedSectionVars false
open Go.RowKit
section
variable {w0 w w' : World} {F0 : List Nat} {M : List (Nat × Obj)} {Fs : List (List Nat)}
theorem Cx.unF1 (h : Cx w0 F0 w M Fs) (j : Nat) {g : Nat} {o : Obj} {R : List Nat} (hj : Fs[j]? = some (g :: R)) (ho : w.heap[g]? = some o) (hg : g ∉ R) : Cx w0 F0 w (M ++ [(g, o)]) (Fs.set j R) := by
  have hm : (g :: R) ∈ Fs := List.mem_of_getElem? hj
  have h1 : Cx w0 F0 w M (Fs.set j R) := h.callF j hj (.refl _ _) (fun x hx => .inl (List.mem_cons_of_mem _ hx)) (fun x hx => h.bound _ hm x (List.mem_cons_of_mem _ hx))
  refine ⟨h1.fr, ?_, ?_, h1.sep, ?_, h1.bound, ?_, h1.ownF⟩
  · intro p hp
    rcases List.mem_append.1 hp with hp | hp
    · exact h.has p hp
    · rw [List.mem_singleton] at hp; subst hp; exact ho
  · rw [List.map_append, List.nodup_append]
    refine ⟨h.nodup, by simp, fun a ha b hb => ?_⟩
    simp only [List.map_cons, List.map_nil, List.mem_singleton] at hb
    subst hb
    obtain ⟨p, hp, rfl⟩ := List.mem_map.1 ha
    exact fun e => h.apart _ hm p hp (by rw [e]; exact List.mem_cons_self)
  · intro G hG p hp
    rcases List.mem_append.1 hp with hp | hp
    · exact h1.apart G hG p hp
    · rw [List.mem_singleton] at hp; subst hp
      obtain ⟨i, hi⟩ := List.getElem?_of_mem hG
      rw [List.getElem?_set] at hi
      split at hi
      · split at hi
        · cases hi; exact hg
        · cases hi
      · rename_i hij
        exact h.disj j i hj hi hij g List.mem_cons_self
  · intro p hp
    rcases List.mem_append.1 hp with hp | hp
    · exact h.ownM p hp
    · rw [List.mem_singleton] at hp; subst hp; exact h.ownF _ hm g List.mem_cons_self
theorem Cx.toF1 (h : Cx w0 F0 w M Fs) (k j : Nat) {b : Nat} {o : Obj} {R : List Nat} (hk : M[k]? = some (b, o)) (hj : Fs[j]? = some R) : Cx w0 F0 w (M.eraseIdx k) (Fs.set j (b :: R)) := by
  have hbm : (b, o) ∈ M := List.mem_of_getElem? hk
  have hrm : R ∈ Fs := List.mem_of_getElem? hj
  have h1 : Cx w0 F0 w (M.eraseIdx k) Fs := h.sub (List.eraseIdx_sublist _ _) (List.Sublist.refl _)
  have hnb : ∀ q ∈ M.eraseIdx k, q.1 ≠ b := by
    intro q hq e
    obtain ⟨i, hik, hi⟩ := List.mem_eraseIdx_iff_getElem?.1 hq
    exact h.ne i k (a := q.1) (o := q.2) (by simpa using hi) hk hik e
  have mem : ∀ G ∈ Fs.set j (b :: R), G = b :: R ∨ ∃ i, j ≠ i ∧ Fs[i]? = some G := by
    intro G hG
    obtain ⟨i, hi⟩ := List.getElem?_of_mem hG
    rw [List.getElem?_set] at hi
    split at hi
    · split at hi
      · cases hi; exact .inl rfl
      · cases hi
    · rename_i hij; exact .inr ⟨i, hij, hi⟩
  refine ⟨h1.fr, h1.has, h1.nodup, ?_, ?_, ?_, h1.ownM, ?_⟩
  · rw [List.pairwise_iff_getElem]
    intro x y hx hy hxy q hq
    have hx' : x < Fs.length := by simpa using hx
    have hy' : y < Fs.length := by simpa using hy
    rw [List.getElem_set] at hq ⊢
    split at hq
    · rename_i e; subst e
      rw [if_neg (by omega)]
      rcases List.mem_cons.1 hq with rfl | hq
      · exact h.apart _ (List.getElem_mem (l := Fs) hy') _ hbm
      · exact h.disj j y hj (List.getElem?_eq_getElem hy') (by omega) q hq
    · split
      · rename_i e; subst e
        intro hq2
        rcases List.mem_cons.1 hq2 with rfl | hq2
        · exact h.apart _ (List.getElem_mem (l := Fs) hx') _ hbm hq
        · exact h.disj x j (List.getElem?_eq_getElem hx') hj (by omega) q hq hq2
      · exact h.disj x y (List.getElem?_eq_getElem hx') (List.getElem?_eq_getElem hy') (by omega) q hq
  · intro G hG p hp
    rcases mem G hG with rfl | ⟨i, _, hi⟩
    · intro hx
      rcases List.mem_cons.1 hx with e | hx
      · exact hnb p hp e
      · exact h1.apart _ hrm p hp hx
    · exact h1.apart G (List.mem_of_getElem? hi) p hp
  · intro G hG x hx
    rcases mem G hG with rfl | ⟨i, _, hi⟩
    · rcases List.mem_cons.1 hx with rfl | hx
      · exact h.lt hbm
      · exact h.bound _ hrm x hx
    · exact h.bound G (List.mem_of_getElem? hi) x hx
  · intro G hG x hx
    rcases mem G hG with rfl | ⟨i, _, hi⟩
    · rcases List.mem_cons.1 hx with rfl | hx
      · exact h.ownM _ hbm
      · exact h.ownF _ hrm x hx
    · exact h.ownF G (List.mem_of_getElem? hi) x hx
theorem Cx.unF3 (h : Cx w0 F0 w M Fs) (j : Nat) {a b c : Nat} {o1 o2 o3 : Obj} {R : List Nat} (hj : Fs[j]? = some (a :: b :: c :: R)) (h1 : w.heap[a]? = some o1) (h2 : w.heap[b]? = some o2) (h3 : w.heap[c]? = some o3) (hn : a ≠ b ∧ a ≠ c ∧ b ≠ c) (hd : a ∉ R ∧ b ∉ R ∧ c ∉ R) :
    Cx w0 F0 w (M ++ [(a, o1), (b, o2), (c, o3)]) (Fs.set j R) := by
  have hlt : j < Fs.length := (List.getElem?_eq_some_iff.1 hj).1
  have k1 := h.unF1 j hj h1 (by simp [hn.1, hn.2.1, hd.1])
  have k2 := k1.unF1 j (List.getElem?_set_self hlt) h2 (by simp [hn.2.2, hd.2.1])
  have k3 := k2.unF1 j (R := R) (g := c) (by rw [List.set_set]; exact List.getElem?_set_self hlt) h3 hd.2.2
  simpa [List.set_set, List.append_assoc] using k3
theorem Cx.toF3 (h : Cx w0 F0 w M Fs) (k j : Nat) {a b c : Nat} {o1 o2 o3 : Obj} {R : List Nat} (hj : Fs[j]? = some R) (h1 : M[k]? = some (a, o1)) (h2 : M[k + 1]? = some (b, o2)) (h3 : M[k + 2]? = some (c, o3)) :
    Cx w0 F0 w (((M.eraseIdx (k + 2)).eraseIdx (k + 1)).eraseIdx k) (Fs.set j (a :: b :: c :: R)) := by
  have hlt : j < Fs.length := (List.getElem?_eq_some_iff.1 hj).1
  have k1 := h.toF1 (k + 2) j h3 hj
  have k2 := k1.toF1 (k + 1) j (b := b) (o := o2) (R := c :: R) (by rw [List.getElem?_eraseIdx_of_lt (by omega)]; exact h2) (List.getElem?_set_self hlt)
  have k3 := k2.toF1 k j (b := a) (o := o1) (R := b :: c :: R) (by rw [List.getElem?_eraseIdx_of_lt (by omega), List.getElem?_eraseIdx_of_lt (by omega)]; exact h1) (by rw [List.set_set]; exact List.getElem?_set_self hlt)
  simpa [List.set_set] using k3
/-- make([]T, n), T of one cell -/
theorem makeN_run {P : Program} (hC : Cx w0 F0 w M Fs) (t e bytes n : Nat) (kl kc : IntKind) (v : Value) (hty : rowTy P t e 1 bytes = true) (hz : (P.info? e).bind (·.zero) = some v) (hv : v.cells = #[v]) (h0 : 0 < n) (hb : bytes * n ≤ 281474976710656) (hn : n ≤ maxLen) :
    ∃ g w', (Instr.makeSlice t (.int kl (n : Int)) (.int kc (n : Int))).run P w = .ok (.slice (some ⟨g, 0, none⟩) n n) w' ∧ Fr w w' [] ∧ w.heap.size ≤ g ∧ Cx w0 F0 w' (M ++ [(g, .cells (List.replicate n v).toArray e (0, 0))]) Fs := by
  obtain ⟨hu, inf, z, hi, hz', hs, hby, hzs, hpos⟩ := rowTy_spec hty
  have hzz : z = v := by rw [hi] at hz; simp [hz'] at hz; exact hz
  subst hzz
  obtain ⟨w', hr, hown, hg⟩ := run_make_full w 0 t e inf z 1 hu hi hz' hs kl kc n (by rw [hby]; exact hb) hn (Nat.zero_le _)
  have hf : Fr w w' [] := (fr_grown (v := .slice none 0 0) hg rfl (fun _ => run_drawn _ _ _ _ hr))
  obtain ⟨g, cur, hA, _, hh, _, _, hsz, ht⟩ := own_blkd hown h0
  have hge : g = w.heap.size := by simpa using hA.symm
  subst hge
  have hcur : cur = (List.replicate n z).toArray := by
    apply Array.ext'
    rw [List.take_of_length_le (by rw [Array.length_toList, hsz]; exact Nat.le_refl _)] at ht
    rw [ht]
    apply List.ext_getElem
    · simp [madeCells]
    · intro i h1 h2
      simp [madeCells, hv, Nat.mod_one]
  rw [hcur] at hh
  exact ⟨w.heap.size, w', hr, hf, Nat.le_refl _, hC.callB hf (Nat.le_refl _) hh⟩
/-- make([]T, n), as a row of the call's own -/
theorem makeO_run {P : Program} (hC : Cx w0 F0 w M Fs) (t e bytes n : Nat) (kl kc : IntKind) (v : Value) (hty : rowTy P t e 1 bytes = true) (hz : (P.info? e).bind (·.zero) = some v) (hv : v.cells = #[v]) (hb : bytes * n ≤ 281474976710656) (hn : n ≤ maxLen) :
    ∃ A w', (Instr.makeSlice t (.int kl (n : Int)) (.int kc (n : Int))).run P w = .ok (.slice A n n) w' ∧ Fr w w' [] ∧ w'.ownsRow 0 e 1 (.slice A n n) n (List.replicate n v) ∧ Cx w0 F0 w' M (Fs ++ [blk (.slice A n n)]) := by
  obtain ⟨hu, inf, z, hi, hz', hs, hby, hzs, hpos⟩ := rowTy_spec hty
  have hzz : z = v := by rw [hi] at hz; simp [hz'] at hz; exact hz
  subst hzz
  obtain ⟨w', hr, hown, hg⟩ := run_make_full w 0 t e inf z 1 hu hi hz' hs kl kc n (by rw [hby]; exact hb) hn (Nat.zero_le _)
  have hf : Fr w w' [] := (fr_grown (v := .slice none 0 0) hg rfl (fun _ => run_drawn _ _ _ _ hr))
  have hX : (madeCells z.cells (n * 1)).toList = List.replicate n z := by
    apply List.ext_getElem
    · simp [madeCells]
    · intro i h1 h2
      simp [madeCells, hv, Nat.mod_one]
  rw [hX] at hown
  have hge : ∀ x ∈ blk (.slice (some ⟨w.heap.size, 0, none⟩) n n), w.heap.size ≤ x := fun x hx => by simp [blk, Value.ownBlock] at hx; omega
  exact ⟨_, w', hr, hf, hown, hC.callN hf hge (own_lt hown)⟩
/-- a footprint's blocks are as they were in w0 -/
def SameF (w0 w : World) (R : List Nat) : Prop := ∀ x ∈ R, x < w.heap.size ∧ w.heap[x]? = w0.heap[x]?
theorem SameF.refl (w : World) (R : List Nat) (h : ∀ x ∈ R, x < w.heap.size) : SameF w w R := fun x hx => ⟨h x hx, rfl⟩
theorem SameF.fr {R F : List Nat} (h : SameF w0 w R) (hf : Fr w w' F) (hd : ∀ x ∈ R, x ∉ F) : SameF w0 w' R := fun x hx => ⟨Nat.lt_of_lt_of_le (h x hx).1 hf.size, (hf.block x (h x hx).1 (hd x hx)).trans (h x hx).2⟩
end
end Go.Tw
