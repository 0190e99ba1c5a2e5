/- Contracts of functions of the program, each proved by a walk through its code; conditions stand in the statements. -/
import Derived.Test.YtmahghppojbeoaaSeI
import Derived.Test.YtmahghppojbeoaaSeAA
namespace Go.Proofs.Ytmahghppojbeoaa
set_option linter.unusedSimpArgs false
set_option linter.unusedVariables false
set_option linter.unusedSectionVars false
open Go Go.RowKit Go.Tw
set_option linter.unusedVariables false
set_option maxRecDepth 20000
open Go.Sort
/-! ### a speaker (T: the program's, or the document's) -/
def mgV (m : Mg) : Int × List Int := (m.kind, m.nums)
def mgsIn (w : World) (R : List Nat) (ms : List Mg) : Prop := (∀ m ∈ ms, Rd w 1 (Go.Tw.encI .i64) m.a m.nums ∧ m.nums.length ≤ 64 ∧ (∀ b off, m.a = some ⟨b, off, none⟩ → b ∈ R) ∧ m.nums.length ≤ m.c) ∧ ∀ x ∈ R, x < w.heap.size
theorem mgsIn.fr {w w' : World} {R G : List Nat} {ms : List Mg} (h : mgsIn w R ms) (hf : Fr w w' G) (hd : ∀ x ∈ R, x ∉ G) : mgsIn w' R ms :=
  ⟨fun m hm => ⟨(h.1 m hm).1.frN hf fun b off e => hd b ((h.1 m hm).2.2.1 b off e), (h.1 m hm).2⟩, fun x hx => Nat.lt_of_lt_of_le (h.2 x hx) hf.size⟩
theorem mgsIn_nil (w : World) : mgsIn w [] [] := ⟨by simp, by simp⟩
theorem mgsIn.snoc {w : World} {R S : List Nat} {ms : List Mg} {m : Mg} (h : mgsIn w R ms) (h1 : Rd w 1 (Go.Tw.encI .i64) m.a m.nums) (h2 : m.nums.length ≤ 64) (h3 : ∀ b off, m.a = some ⟨b, off, none⟩ → b ∈ S) (h4 : ∀ x ∈ S, x < w.heap.size) (h5 : m.nums.length ≤ m.c) : mgsIn w (R ++ S) (ms ++ [m]) := by
  refine ⟨fun q hq => ?_, fun x hx => (List.mem_append.1 hx).elim (h.2 x) (h4 x)⟩
  rcases List.mem_append.1 hq with hq | hq
  · exact ⟨(h.1 q hq).1, (h.1 q hq).2.1, fun b off e => List.mem_append_left _ ((h.1 q hq).2.2.1 b off e), (h.1 q hq).2.2.2⟩
  · simp at hq; subst hq; exact ⟨h1, h2, fun b off e => List.mem_append_right _ (h3 b off e), h5⟩
def spAt (T : TypeId) (w : World) (F : List Nat) (p : Nat) (b : Int) (o : Bool) (vs : List Int) (V : List (Int × List Int)) : Prop :=
  ∃ (Av : Option Addr) (cv : Nat) (Am : Option Addr) (cm : Nat) (ms : List Mg) (R : List Nat),
    w.heap[p]? = some (.cells #[.int .i64 b, .bool o, .slice Av vs.length cv, .slice Am ms.length cm] T (0, 0)) ∧
    w.ownsRow 0 44 1 (.slice Av vs.length cv) vs.length (vs.flatMap (Go.Tw.encI .u32)) ∧
    w.ownsRow 0 40 3 (.slice Am ms.length cm) ms.length (ms.flatMap cellsM) ∧
    mgsIn w R ms ∧ ms.map mgV = V ∧ F = p :: (blk (.slice Av vs.length cv) ++ (blk (.slice Am ms.length cm) ++ R)) ∧
    p ∉ blk (.slice Av vs.length cv) ∧ p ∉ blk (.slice Am ms.length cm) ∧ p ∉ R ∧
    (∀ x ∈ blk (.slice Av vs.length cv), x ∉ blk (.slice Am ms.length cm)) ∧ (∀ x ∈ blk (.slice Av vs.length cv), x ∉ R) ∧ (∀ x ∈ blk (.slice Am ms.length cm), x ∉ R)
theorem spAt_lt {T : TypeId} {w : World} {F : List Nat} {p : Nat} {b : Int} {o : Bool} {vs : List Int} {V : List (Int × List Int)} (h : spAt T w F p b o vs V) : ∀ x ∈ F, x < w.heap.size := by
  obtain ⟨Av, cv, Am, cm, ms, R, h1, h2, h3, h4, _, rfl, _⟩ := h
  intro x hx
  simp only [List.mem_cons, List.mem_append] at hx
  rcases hx with rfl | hx | hx | hx
  · exact lt_of_heap h1
  · exact own_lt h2 x hx
  · exact own_lt h3 x hx
  · exact h4.2 x hx
theorem spAt_fr {T : TypeId} {w w' : World} {F G : List Nat} {p : Nat} {b : Int} {o : Bool} {vs : List Int} {V : List (Int × List Int)} (h : spAt T w F p b o vs V) (hf : Fr w w' G) (hd : ∀ x ∈ F, x ∉ G) : spAt T w' F p b o vs V := by
  obtain ⟨Av, cv, Am, cm, ms, R, h1, h2, h3, h4, h5, rfl, h6⟩ := h
  refine ⟨Av, cv, Am, cm, ms, R, hf.has h1 (hd p (by simp)), own_fr h2 hf (fun x hx => hd x (by simp [hx])), own_fr h3 hf (fun x hx => hd x (by simp [hx])), h4.fr hf (fun x hx => hd x (by simp [hx])), h5, rfl, h6⟩
theorem Cx.open3 {w : World} {p : Nat} {o : Obj} {A B C : List Nat} (h : w.heap[p]? = some o) (hA : ∀ x ∈ A, x < w.heap.size) (hB : ∀ x ∈ B, x < w.heap.size) (hC : ∀ x ∈ C, x < w.heap.size) (pA : p ∉ A) (pB : p ∉ B) (pC : p ∉ C) (dAB : ∀ x ∈ A, x ∉ B) (dAC : ∀ x ∈ A, x ∉ C) (dBC : ∀ x ∈ B, x ∉ C) : Cx w (p :: (A ++ (B ++ C))) w [(p, o)] [A, B, C] := by
  refine ⟨.refl _ _, by simpa using h, by simp, ?_, ?_, ?_, by simp, ?_⟩
  · simp only [List.pairwise_cons, List.mem_cons, List.not_mem_nil, or_false, forall_eq_or_imp, forall_eq, List.Pairwise.nil, and_true, false_imp_iff, implies_true]
    exact ⟨⟨dAB, dAC⟩, dBC⟩
  · intro F hF q hq
    simp only [List.mem_cons, List.not_mem_nil, or_false] at hF hq
    subst hq
    rcases hF with rfl | rfl | rfl
    · exact pA
    · exact pB
    · exact pC
  · intro F hF x hx
    simp only [List.mem_cons, List.not_mem_nil, or_false] at hF
    rcases hF with rfl | rfl | rfl
    · exact hA x hx
    · exact hB x hx
    · exact hC x hx
  · intro F hF x hx
    simp only [List.mem_cons, List.not_mem_nil, or_false] at hF
    rcases hF with rfl | rfl | rfl <;> exact .inl (by simp [hx])
theorem Cx.done {w0 w : World} {F0 : List Nat} (h : Fr w0 w F0) : Cx w0 F0 w [] [] := ⟨h, by simp, by simp, by simp, by simp, by simp, by simp, by simp⟩
/-- the speaker is shut -/
theorem sp_close {T : TypeId} {w0 w : World} {F0 : List Nat} {M : List (Nat × Obj)} {Fs : List (List Nat)} (hC : Cx w0 F0 w M Fs) (k j1 j2 j3 : Nat) {p : Nat} {b : Int} {o : Bool} {Av Am : Option Addr} {cv cm n m : Nat} {vs : List Int} {ms : List Mg} {R : List Nat} {V : List (Int × List Int)}
    (hM : M[k]? = some (p, .cells #[.int .i64 b, .bool o, .slice Av n cv, .slice Am m cm] T (0, 0))) (h1 : Fs[j1]? = some (blk (.slice Av n cv))) (h2 : Fs[j2]? = some (blk (.slice Am m cm))) (h3 : Fs[j3]? = some R)
    (hv : w.ownsRow 0 44 1 (.slice Av n cv) n (vs.flatMap (Go.Tw.encI .u32))) (hs : w.ownsRow 0 40 3 (.slice Am m cm) m (ms.flatMap cellsM)) (hg : mgsIn w R ms) (hV : ms.map mgV = V) (d12 : j1 ≠ j2) (d13 : j1 ≠ j3) (d23 : j2 ≠ j3) :
    ∃ F', spAt T w F' p b o vs V ∧ ∀ x ∈ F', x ∈ F0 ∨ w0.heap.size ≤ x := by
  have hn : vs.length = n := own_count (Go.Tw.encI_len _) (by decide) hv
  have hm : ms.length = m := own_count cellsM_len (by decide) hs
  subst hn hm
  refine ⟨_, ⟨Av, cv, Am, cm, ms, R, hC.get k hM, hv, hs, hg, hV, rfl, hC.notin j1 k h1 hM, hC.notin j2 k h2 hM, hC.notin j3 k h3 hM, hC.disj j1 j2 h1 h2 d12, hC.disj j1 j3 h1 h3 d13, hC.disj j2 j3 h2 h3 d23⟩, fun x hx => ?_⟩
  simp only [List.mem_cons, List.mem_append] at hx
  rcases hx with rfl | hx | hx | hx
  · exact hC.new_ge k hM
  · exact hC.ownF _ (List.mem_of_getElem? h1) x hx
  · exact hC.ownF _ (List.mem_of_getElem? h2) x hx
  · exact hC.ownF _ (List.mem_of_getElem? h3) x hx
/-- .. with the new word's numbers beside -/
theorem sp_close2 {T : TypeId} {w0 w : World} {F0 : List Nat} {M : List (Nat × Obj)} {Fs : List (List Nat)} (hC : Cx w0 F0 w M Fs) (k j1 j2 j3 j4 : Nat) {p : Nat} {b : Int} {o : Bool} {Av Am : Option Addr} {cv cm n m : Nat} {vs : List Int} {ms : List Mg} {R S : List Nat} {V : List (Int × List Int)}
    (hM : M[k]? = some (p, .cells #[.int .i64 b, .bool o, .slice Av n cv, .slice Am m cm] T (0, 0))) (h1 : Fs[j1]? = some (blk (.slice Av n cv))) (h2 : Fs[j2]? = some (blk (.slice Am m cm))) (h3 : Fs[j3]? = some R) (h4 : Fs[j4]? = some S)
    (hv : w.ownsRow 0 44 1 (.slice Av n cv) n (vs.flatMap (Go.Tw.encI .u32))) (hs : w.ownsRow 0 40 3 (.slice Am m cm) m (ms.flatMap cellsM)) (hg : mgsIn w (R ++ S) ms) (hV : ms.map mgV = V) (d12 : j1 ≠ j2) (d13 : j1 ≠ j3) (d23 : j2 ≠ j3) (d14 : j1 ≠ j4) (d24 : j2 ≠ j4) :
    ∃ F', spAt T w F' p b o vs V ∧ ∀ x ∈ F', x ∈ F0 ∨ w0.heap.size ≤ x := by
  have hn : vs.length = n := own_count (Go.Tw.encI_len _) (by decide) hv
  have hm : ms.length = m := own_count cellsM_len (by decide) hs
  subst hn hm
  refine ⟨_, ⟨Av, cv, Am, cm, ms, R ++ S, hC.get k hM, hv, hs, hg, hV, rfl, hC.notin j1 k h1 hM, hC.notin j2 k h2 hM, fun h => (List.mem_append.1 h).elim (hC.notin j3 k h3 hM) (hC.notin j4 k h4 hM), hC.disj j1 j2 h1 h2 d12, fun x hx h => (List.mem_append.1 h).elim (hC.disj j1 j3 h1 h3 d13 x hx) (hC.disj j1 j4 h1 h4 d14 x hx), fun x hx h => (List.mem_append.1 h).elim (hC.disj j2 j3 h2 h3 d23 x hx) (hC.disj j2 j4 h2 h4 d24 x hx)⟩, fun x hx => ?_⟩
  simp only [List.mem_cons, List.mem_append] at hx
  rcases hx with rfl | hx | hx | hx | hx
  · exact hC.new_ge k hM
  · exact hC.ownF _ (List.mem_of_getElem? h1) x hx
  · exact hC.ownF _ (List.mem_of_getElem? h2) x hx
  · exact hC.ownF _ (List.mem_of_getElem? h3) x hx
  · exact hC.ownF _ (List.mem_of_getElem? h4) x hx
/-- what a speaker has said, taken out -/
def outAt (w : World) (F : List Nat) (A : Option Addr) (n c : Nat) (V : List (Int × List Int)) : Prop :=
  ∃ ms : List Mg, ms.map mgV = V ∧ ms.length = n ∧ n ≤ c ∧ n ≤ 140737488355328 ∧ Rd w 3 cellsM A ms ∧ (∀ b off, A = some ⟨b, off, none⟩ → b ∈ F) ∧ mgsIn w F ms
theorem outAt.fr {w w' : World} {F G : List Nat} {A : Option Addr} {n c : Nat} {V : List (Int × List Int)} (h : outAt w F A n c V) (hf : Fr w w' G) (hd : ∀ x ∈ F, x ∉ G) : outAt w' F A n c V := by
  obtain ⟨ms, h1, h2, h3, h4, h5, h6, h7⟩ := h
  exact ⟨ms, h1, h2, h3, h4, h5.frN hf fun b off e => hd b (h6 b off e), h6, h7.fr hf hd⟩
theorem outAt_lt {w : World} {F : List Nat} {A : Option Addr} {n c : Nat} {V : List (Int × List Int)} (h : outAt w F A n c V) : ∀ x ∈ F, x < w.heap.size := by obtain ⟨ms, _, _, _, _, _, _, h7⟩ := h; exact h7.2
def annV (X : List Int) : List Int := (cpt (outV (sortU X))).take 39
def tickV (b : Int) (o : Bool) (vs : List Int) (now : Int) : List (Int × List Int) := if timB now = true ∧ Int.tmod now 4 = 0 then (if o = true then [(12, b :: vs)] else [(10, [b])]) else []
def annM (b : Int) (o : Bool) (vs X : List Int) : List (Int × List Int) := if annV X ≠ vs ∧ o = true then [(12, b :: annV X)] else []
def recvO (b : Int) (o : Bool) (k : Int) (N : List Int) : Bool := if N = [b] then (if k = 11 then true else if k = 14 then false else o) else o
def recvM (b k : Int) (vs N : List Int) : List (Int × List Int) := if N = [b] ∧ k = 11 then [(12, b :: vs)] else []
theorem annV_len (X : List Int) : (annV X).length = min 39 (cpt (outV (sortU X))).length := List.length_take
theorem tk_ann (X : List Int) : (cpt (outV (sortU X))).take (annV X).length = annV X := by
  rw [annV_len]; unfold annV
  rcases Nat.le_total 39 (cpt (outV (sortU X))).length with h | h
  · rw [Nat.min_eq_left h]
  · rw [Nat.min_eq_right h, List.take_of_length_le (Nat.le_refl _), List.take_of_length_le h]
theorem cptN_mem {xs : List Int} {x : Int} : ∀ {j : Nat}, x ∈ cptN xs j → x ∈ xs
  | 0, h => by simp [cptN] at h
  | j + 1, h => by
    unfold cptN at h
    split at h
    · exact cptN_mem h
    · rcases List.mem_append.1 h with h | h
      · exact cptN_mem h
      · cases e : xs[j]? with
        | none => rw [e] at h; simp at h
        | some y => rw [e] at h; simp at h; subst h; exact List.mem_of_getElem? e
theorem annV_mem {X : List Int} {x : Int} (h : x ∈ annV X) : x ∈ X ∧ isVip x = true := by
  have h1 := cptN_mem (List.mem_of_mem_take h)
  unfold outV at h1
  have h2 := List.mem_filter.1 h1
  refine ⟨sortU_mem.1 h2.1, ?_⟩
  have := h2.2; unfold nVip at this; simpa using this
theorem annV_ok {X : List Int} (h : ∀ x ∈ X, 0 ≤ x ∧ x ≤ 4294967295) : (annV X).length ≤ 39 ∧ ∀ x ∈ annV X, 0 ≤ x ∧ x ≤ 4294967295 := ⟨by rw [annV_len]; omega, fun x hx => h x (annV_mem hx).1⟩
theorem mgsIn.mono {w : World} {R S : List Nat} {ms : List Mg} (h : mgsIn w R ms) (hs : ∀ x ∈ R, x ∈ S) (hb : ∀ x ∈ S, x < w.heap.size) : mgsIn w S ms := ⟨fun m hm => ⟨(h.1 m hm).1, (h.1 m hm).2.1, fun b off e => hs b ((h.1 m hm).2.2.1 b off e), (h.1 m hm).2.2.2⟩, hb⟩
theorem sp_out {T : TypeId} {w : World} {p : Nat} {b : Int} {o : Bool} {Av Am : Option Addr} {cv cm : Nat} {vs : List Int} {ms : List Mg} {R : List Nat} {V : List (Int × List Int)} (hp : w.heap[p]? = some (.cells #[.int .i64 b, .bool o, .slice Av vs.length cv, .slice none 0 0] T (0, 0)))
    (hv : w.ownsRow 0 44 1 (.slice Av vs.length cv) vs.length (vs.flatMap (Go.Tw.encI .u32))) (hs : w.ownsRow 0 40 3 (.slice Am ms.length cm) ms.length (ms.flatMap cellsM)) (hg : mgsIn w R ms) (hV : ms.map mgV = V) (hml : V.length ≤ 1099511627776) (pA : p ∉ blk (.slice Av vs.length cv)) (pB : p ∉ blk (.slice Am ms.length cm)) (pR : p ∉ R)
    (dAB : ∀ x ∈ blk (.slice Av vs.length cv), x ∉ blk (.slice Am ms.length cm)) (dAR : ∀ x ∈ blk (.slice Av vs.length cv), x ∉ R) :
    ∃ F' R2, spAt T w F' p b o vs [] ∧ outAt w R2 Am ms.length cm V ∧ (∀ x ∈ F', x ∈ p :: (blk (.slice Av vs.length cv) ++ (blk (.slice Am ms.length cm) ++ R))) ∧ (∀ x ∈ R2, x ∈ p :: (blk (.slice Av vs.length cv) ++ (blk (.slice Am ms.length cm) ++ R))) ∧ ∀ x ∈ F', x ∉ R2 := by
  have hl : ms.length = V.length := by rw [← hV, List.length_map]
  refine ⟨_, blk (.slice Am ms.length cm) ++ R, ⟨Av, cv, none, 0, [], [], hp, hv, own_nil _ _ _ _, mgsIn_nil _, rfl, rfl, pA, by simp [blk, Value.ownBlock], by simp, by simp [blk, Value.ownBlock], by simp, by simp⟩, ⟨ms, hV, rfl, own_le hs, by omega, own_rd hs cellsM_len (by decide), fun b2 off e => List.mem_append_left _ (blk_one e), hg.mono (fun x hx => List.mem_append_right _ hx) fun x hx => (List.mem_append.1 hx).elim (own_lt hs x) (hg.2 x)⟩, fun x hx => ?_, fun x hx => ?_, fun x hx hx2 => ?_⟩
  · simp only [List.mem_cons, List.mem_append, blk, Value.ownBlock, List.not_mem_nil, or_false] at hx ⊢
    rcases hx with rfl | hx
    · exact .inl rfl
    · exact .inr (.inl (by simpa [blk, Value.ownBlock] using hx))
  · exact List.mem_cons_of_mem _ (List.mem_append_right _ hx)
  · have hx' : x = p ∨ x ∈ blk (.slice Av vs.length cv) := by
      simp only [List.mem_cons, List.mem_append] at hx
      rcases hx with rfl | hx | hx | hx
      · exact .inl rfl
      · exact .inr hx
      · simp [blk, Value.ownBlock] at hx
      · cases hx
    rcases hx' with rfl | hx'
    · exact (List.mem_append.1 hx2).elim pB pR
    · exact (List.mem_append.1 hx2).elim (dAB x hx') (dAR x hx')
/-- a call that parts a footprint in two -/
theorem Cx.callSplit {w0 w w' : World} {F0 : List Nat} {M : List (Nat × Obj)} {Fs : List (List Nat)} (hC : Cx w0 F0 w M Fs) (j : Nat) {F F' R2 : List Nat} (hj : Fs[j]? = some F) (hf : Fr w w' F) (h1 : ∀ x ∈ F', x ∈ F) (h2 : ∀ x ∈ R2, x ∈ F) (hd : ∀ x ∈ F', x ∉ R2) (hb : ∀ x ∈ F', x < w'.heap.size) (hb2 : ∀ x ∈ R2, x < w'.heap.size) : Cx w0 F0 w' M (Fs.set j F' ++ [R2]) := by
  have c1 := hC.callF j hj hf (fun x hx => .inl (h1 x hx)) hb
  have c2 := hC.callF j hj hf (fun x hx => .inl (h2 x hx)) hb2
  have hjl : j < Fs.length := (List.getElem?_eq_some_iff.1 hj).1
  have hm : R2 ∈ Fs.set j R2 := List.mem_iff_getElem?.2 ⟨j, by rw [List.getElem?_set_self hjl]⟩
  refine ⟨c1.fr, c1.has, c1.nodup, ?_, ?_, ?_, c1.ownM, ?_⟩
  · rw [List.pairwise_append]
    refine ⟨c1.sep, by simp, fun A hA B hB x hx hxB => ?_⟩
    simp only [List.mem_singleton] at hB; subst hB
    obtain ⟨k, hk⟩ := List.mem_iff_getElem?.1 hA
    by_cases e : k = j
    · subst e; rw [List.getElem?_set_self hjl] at hk; cases hk; exact hd x hx hxB
    · rw [List.getElem?_set_ne (Ne.symm e)] at hk
      exact hC.disj k j hk hj e x hx (h2 x hxB)
  · intro G hG q hq
    rcases List.mem_append.1 hG with hG | hG
    · exact c1.apart G hG q hq
    · simp only [List.mem_singleton] at hG; subst hG; exact c2.apart _ hm q hq
  · intro G hG x hx
    rcases List.mem_append.1 hG with hG | hG
    · exact c1.bound G hG x hx
    · simp only [List.mem_singleton] at hG; subst hG; exact hb2 x hx
  · intro G hG x hx
    rcases List.mem_append.1 hG with hG | hG
    · exact c1.ownF G hG x hx
    · simp only [List.mem_singleton] at hG; subst hG; exact c2.ownF _ hm x hx
theorem sp_new {T : TypeId} {w : World} {p : Nat} {b : Int} (hp : w.heap[p]? = some (.cells #[.int .i64 b, .bool false, .slice none 0 0, .slice none 0 0] T (0, 0))) : spAt T w [p] p b false [] [] :=
  ⟨none, 0, none, 0, [], [], hp, own_nil _ _ _ _, own_nil _ _ _ _, mgsIn_nil _, rfl, rfl, by simp [blk, Value.ownBlock], by simp [blk, Value.ownBlock], by simp, by simp [blk, Value.ownBlock], by simp, by simp⟩
set_option maxHeartbeats 1000000 in
theorem sayG_ct (F : List Nat) (p : Nat) (b : Int) (o : Bool) (vs : List Int) (V : List (Int × List Int)) (kind : Int) (A : Option Addr) (c : Nat) (more : List Int)  (w : World) (ht : spAt 78 w F p b o vs V) (hr : Rd w 1 (Go.Tw.encI .i64) A more) (hl : more.length ≤ 60) (hml : V.length ≤ 1099511627776) : Calls Try.prog 45 #[.pointer (some ⟨p, 0, none⟩), .int .i64 kind, .slice A more.length c] w fun e w' => ∃ F', e = .returned (.tuple #[]) ∧ Fr w w' F ∧ spAt 78 w' F' p b o vs (V ++ [(kind, b :: more)]) ∧ ∀ x ∈ F', x ∈ F ∨ w.heap.size ≤ x := by
 refine enterD (n := 24) Try.func45 rfl rfl (Nat.le_of_ble_eq_true rfl) ?_
 intro Q0 hN hret hret'
 have ht0 := ht
 obtain ⟨Av, cv, Am, cm, ms, R, hp_, hv_, hs_, hg_, hV_, rfl, pA_, pB_, pR_, dAB_, dAR_, dBR_⟩ := ht
 have hC := Cx.open3 hp_ (own_lt hv_) (own_lt hs_) hg_.2 pA_ pB_ pR_ dAB_ dAR_ dBR_
 have hcm_ := own_le hs_
 have hcx_ : ms.length = V.length := by rw [← hV_, List.length_map]
 have hvl_ := own_max hv_
 refine WC.drawC hC (p :: blk (.slice Am ms.length cm)) (by kernel_rfl) (fun w1 hF2 hC3 hS4 => ?_)
 have hf5 := (Fr.refl w []).trans hF2 (by simp)
 have ho6 := own_fr hv_ hF2 (by simp)
 have ho7 := own_fr hs_ hF2 (by simp)
 have hf8 := mgsIn.fr hg_ hF2 (by simp)
 refine WDq hN 0 6 (.pointer (some ⟨p, 0, none⟩)) hS4 ?_
 refine WDq hN 1 7 (.pointer (some ⟨p, 0, none⟩)) hS4 ?_
 refine WDq hN 2 8 (.pointer (some ⟨p, 0, none⟩)) hS4 ?_
 refine WDq hN 3 9 (.pointer (some ⟨p, 3, none⟩)) hS4 ?_
 refine WDq hN 5 11 (.int .i64 kind) hS4 ?_
 refine WDq hN 6 12 (.pointer (some ⟨p, 0, none⟩)) hS4 ?_
 refine WDq hN 7 13 (.pointer (some ⟨p, 0, none⟩)) hS4 ?_
 refine WDq hN 8 14 (.pointer (some ⟨p, 0, none⟩)) hS4 ?_
 refine WDq hN 11 17 (.slice A more.length c) hS4 ?_
 refine WD.all2 4 9 (by kernel_rfl) ?_ ?_
 ·
  refine WO.sem 4 (Instr.loadAt 34 (.pointer (some ⟨p, 3, none⟩))) 10 (.slice Am ms.length cm) (by kernel_rfl) (by kernel_rfl) (run_ld (hC3.get 0 rfl) rfl) hS4 ?_
  refine WD.sem 9 (Instr.loadAt 3 (.pointer (some ⟨p, 0, none⟩))) 15 (.int .i64 b) (by kernel_rfl) (by kernel_rfl) (run_ld (hC3.get 0 rfl) rfl) hS4 ?_
  refine WD.new 10 (fun b => .slice (some ⟨b, 0, none⟩) 1 1) (.cells #[.int .i64 b] 3) (by kernel_rfl) rfl rfl rfl rfl rfl (fun _ => by kernel_rfl) (fun g9 f9 cB ga aZ fa => ?_)
  have cC := hC3.callB aZ cB fa
  have hnbg9_ := Nat.le_trans hS4.size cB
  have cq := hS4.trans aZ (by simp)
  refine ⟨cq, ?_⟩
  have fb := hf5.trans aZ (by simp)
  have fc := own_fr ho6 aZ (by simp)
  have fd := own_fr ho7 aZ (by simp)
  have fe := mgsIn.fr hf8 aZ (by simp)
  have ff : World.ownsRow f9 0 3 1 (.slice (some ⟨g9, 0, none⟩) 1 1) 1 ([b].flatMap (Go.Tw.encI .i64)) := own_of_blk (Nat.zero_le _) (cC.get 1 rfl) (Nat.le_refl _) (by decide) rfl rfl
  have bz := cC.toF 1 rfl
  obtain ⟨gI, gb, fg, fh, bA, fi, fj, cr⟩ := app_run Try.prog bz 3 (v := .slice (some ⟨g9, 0, none⟩) 1 1) rfl 37 37 3 1 8 1 more.length c A rfl ff (more.flatMap (Go.Tw.encI .i64)) (flat_len_n (Go.Tw.encI_len _) (by first | rfl | assumption | (simp; done) | (simp; omega))) (Rd.src_n (Rd.fr hr fb) (Go.Tw.encI_len _) (by decide) (by first | rfl | assumption | (simp; done) | (simp; omega))) (flat_one (Go.Tw.encI_one _) _) (by simp only [maxLen]; omega) (by omega)
  have cs := own_app (enc := (Go.Tw.encI .i64)) (ys := [b]) (zs := more) fh
  obtain ⟨fk, fl, rfl, fZ⟩ := own_form cs
  have bR : ∀ x_ ∈ blk (.slice (some ⟨g9, 0, none⟩) 1 1), w1.heap.size ≤ x_ := by first | (simp [blk, Value.ownBlock, *]; done) | (intro x_ hx_; simp [blk, Value.ownBlock] at hx_; omega)
  have f0 : ∀ x_ ∈ blk (.slice fk (1 + more.length) fl), w1.heap.size ≤ x_ := fun x_ hx_ => (cr x_ hx_).elim (bR x_) (fun h_ => Nat.le_trans cq.size h_)
  have cD := cq.trans bA (fun x_ hx_ => .inr (bR x_ hx_))
  refine WD.sem 12 (Builtin.append_ #[37, 37] 37 #[.slice (some ⟨g9, 0, none⟩) 1 1, .slice A more.length c]) 18 (.slice fk (1 + more.length) fl) (by kernel_rfl) (by kernel_rfl) fg cD ?_
  have fm := own_fr fc bA (bz.disj 0 3 rfl rfl (by decide))
  have fn := own_fr fd bA (bz.disj 1 3 rfl rfl (by decide))
  have fo := mgsIn.fr fe bA (bz.disj 2 3 rfl rfl (by decide))
  have hxs_ : [b] ++ more = (b :: more) := by simp
  refine WD.call 13 (by kernel_rfl) rfl rfl rfl rfl rfl (by kernel_rfl) (Make_x kind fk (1 + more.length) fl (b :: more) gb (hxs_ ▸ (own_rd cs (Go.Tw.encI_len _) (by decide))) (by rw [← hxs_]; exact (own_count (Go.Tw.encI_len _) (by decide) cs)) (by omega)) ?_
  rintro _ gJ ⟨cE, cF, rfl, a2, ct⟩
  have fp := fi.callN a2 (own_ge ct) (own_lt ct)
  have cu := cD.trans a2 (by simp)
  refine ⟨_, rfl, cu, ?_⟩
  have fq := own_fr fm a2 (by simp)
  have fs := own_fr fn a2 (by simp)
  have ft := mgsIn.fr fo a2 (by simp)
  have fu := own_base (b' := 0) ct (fun _ _ => Nat.zero_le _)
  refine WD.new 14 (fun b => .slice (some ⟨b, 0, none⟩) 1 1) (.cells #[.int .i64 kind, .slice cE ((b :: more).length) cF, .slice none 0 0] 40) (by kernel_rfl) rfl rfl rfl rfl rfl (fun _ => by kernel_rfl) (fun f1 gK cG gc a0 fv => ?_)
  have a3 := fp.callB a0 cG fv
  have eS := Nat.le_trans cu.size cG
  have cH := cu.trans a0 (by simp)
  refine ⟨cH, ?_⟩
  have fw := own_fr fq a0 (by simp)
  have fx := own_fr fs a0 (by simp)
  have fy := mgsIn.fr ft a0 (by simp)
  have fz := own_fr fu a0 (by simp)
  obtain ⟨gL, gM, fA, fB, bB, a4, fC, fD⟩ := app_run Try.prog a3 1 (v := .slice Am ms.length cm) rfl 34 34 40 3 56 ms.length 1 1 (some ⟨f1, 0, none⟩) rfl fx [.int .i64 kind, .slice cE ((b :: more).length) cF, .slice none 0 0] rfl (srcOk.blk 1 (a3.get 1 rfl)) rfl (by simp only [maxLen]; omega) (by omega)
  have cI := own_snoc (enc := cellsM) (ys := ms) (⟨kind, cE, cF, (b :: more)⟩ : Mg) fB
  obtain ⟨eT, eU, rfl, f2⟩ := own_form cI
  have a5 := cH.trans bB (fun x_ hx_ => .inl (List.mem_cons_of_mem _ hx_))
  refine WD.sem 15 (Builtin.append_ #[34, 34] 34 #[.slice Am ms.length cm, .slice (some ⟨f1, 0, none⟩) 1 1]) 21 (.slice eT (ms.length + 1) eU) (by kernel_rfl) (by kernel_rfl) fA a5 ?_
  have fE := own_fr fw bB (a3.disj 0 1 rfl rfl (by decide))
  have fF := mgsIn.fr fy bB (a3.disj 2 1 rfl rfl (by decide))
  have fG := own_fr fz bB (a3.disj 4 1 rfl rfl (by decide))
  refine WDq hN 16 22 (.pointer (some ⟨p, 0, none⟩)) a5 ?_
  refine WDq hN 17 23 (.pointer (some ⟨p, 3, none⟩)) a5 ?_
  obtain ⟨gN, fH, a6, cJ⟩ := sto_run (c' := #[.int .i64 b, .bool o, .slice Av vs.length cv, .slice eT (ms.length + 1) eU]) Try.prog a4 0 34 p 3 (.slice eT (ms.length + 1) eU) rfl (by kernel_rfl)
  have fI := a5.trans a6 (by first | (simp; done) | (simp [*]; done) | (have q_ := a5.size; simp; omega))
  refine WD.semU 18 (Instr.storeAt 34 (.pointer (some ⟨p, 3, none⟩)) (.slice eT (ms.length + 1) eU)) (by kernel_rfl) (by kernel_rfl) fH fI ?_
  have fJ := own_fr fE a6 (a4.apartM 0 0 rfl rfl)
  have fK := own_fr cI a6 (a4.apartM 1 0 rfl rfl)
  have fL := mgsIn.fr fF a6 (a4.apartM 2 0 rfl rfl)
  have cw := own_fr fG a6 (a4.apartM 4 0 rfl rfl)
  refine WD.done (by kernel_rfl) ?_
  refine (hret _ _ _ rfl ?_).2
  clear hN hret hret' 
  have hmg_ := fL.snoc (S := blk (.slice cE ((b :: more).length) cF)) (m := (⟨kind, cE, cF, b :: more⟩ : Mg)) (own_rd cw (Go.Tw.encI_len _) (by decide)) (by simp only [List.length_cons]; omega) (fun b_ off_ e_ => blk_one e_) (own_lt cw) (own_le cw)
  have hsd_ := fK
  obtain ⟨F2_, h1_, h2_⟩ := sp_close2 cJ 0 0 1 2 4 rfl rfl rfl rfl rfl fJ hsd_ hmg_ (show _ = V ++ [(kind, b :: more)] from by rw [List.map_append, hV_]; rfl) (by decide) (by decide) (by decide) (by decide) (by decide)
  exact ⟨F2_, rfl, cJ.fr, h1_, h2_⟩
 ·
  refine WO.sem 9 (Instr.loadAt 3 (.pointer (some ⟨p, 0, none⟩))) 15 (.int .i64 b) (by kernel_rfl) (by kernel_rfl) (run_ld (hC3.get 0 rfl) rfl) hS4 ?_
  refine WD.all2 4 10 (by kernel_rfl) ?_ ?_
  ·
   refine WO.sem 4 (Instr.loadAt 34 (.pointer (some ⟨p, 3, none⟩))) 10 (.slice Am ms.length cm) (by kernel_rfl) (by kernel_rfl) (run_ld (hC3.get 0 rfl) rfl) hS4 ?_
   refine WD.new 10 (fun b => .slice (some ⟨b, 0, none⟩) 1 1) (.cells #[.int .i64 b] 3) (by kernel_rfl) rfl rfl rfl rfl rfl (fun _ => by kernel_rfl) (fun eV gd cK gf a1 cL => ?_)
   have cM := hC3.callB a1 cK cL
   have eW := Nat.le_trans hS4.size cK
   have a7 := hS4.trans a1 (by simp)
   refine ⟨a7, ?_⟩
   have cN := hf5.trans a1 (by simp)
   have cO := own_fr ho6 a1 (by simp)
   have cP := own_fr ho7 a1 (by simp)
   have cQ := mgsIn.fr hf8 a1 (by simp)
   have cR : World.ownsRow gd 0 3 1 (.slice (some ⟨eV, 0, none⟩) 1 1) 1 ([b].flatMap (Go.Tw.encI .i64)) := own_of_blk (Nat.zero_le _) (cM.get 1 rfl) (Nat.le_refl _) (by decide) rfl rfl
   have aN := cM.toF 1 rfl
   obtain ⟨gg, fM, cS, cT, aO, cU, eX, bC⟩ := app_run Try.prog aN 3 (v := .slice (some ⟨eV, 0, none⟩) 1 1) rfl 37 37 3 1 8 1 more.length c A rfl cR (more.flatMap (Go.Tw.encI .i64)) (flat_len_n (Go.Tw.encI_len _) (by first | rfl | assumption | (simp; done) | (simp; omega))) (Rd.src_n (Rd.fr hr cN) (Go.Tw.encI_len _) (by decide) (by first | rfl | assumption | (simp; done) | (simp; omega))) (flat_one (Go.Tw.encI_one _) _) (by simp only [maxLen]; omega) (by omega)
   have a8 := own_app (enc := (Go.Tw.encI .i64)) (ys := [b]) (zs := more) cT
   obtain ⟨cx, cy, rfl, fN⟩ := own_form a8
   have a9 : ∀ x_ ∈ blk (.slice (some ⟨eV, 0, none⟩) 1 1), w1.heap.size ≤ x_ := by first | (simp [blk, Value.ownBlock, *]; done) | (intro x_ hx_; simp [blk, Value.ownBlock] at hx_; omega)
   have fO : ∀ x_ ∈ blk (.slice cx (1 + more.length) cy), w1.heap.size ≤ x_ := fun x_ hx_ => (bC x_ hx_).elim (a9 x_) (fun h_ => Nat.le_trans a7.size h_)
   have bS := a7.trans aO (fun x_ hx_ => .inr (a9 x_ hx_))
   refine WD.sem 12 (Builtin.append_ #[37, 37] 37 #[.slice (some ⟨eV, 0, none⟩) 1 1, .slice A more.length c]) 18 (.slice cx (1 + more.length) cy) (by kernel_rfl) (by kernel_rfl) cS bS ?_
   have cV := own_fr cO aO (aN.disj 0 3 rfl rfl (by decide))
   have cW := own_fr cP aO (aN.disj 1 3 rfl rfl (by decide))
   have cX := mgsIn.fr cQ aO (aN.disj 2 3 rfl rfl (by decide))
   have hxs_ : [b] ++ more = (b :: more) := by simp
   refine WD.call 13 (by kernel_rfl) rfl rfl rfl rfl rfl (by kernel_rfl) (Make_x kind cx (1 + more.length) cy (b :: more) fM (hxs_ ▸ (own_rd a8 (Go.Tw.encI_len _) (by decide))) (by rw [← hxs_]; exact (own_count (Go.Tw.encI_len _) (by decide) a8)) (by omega)) ?_
   rintro _ gh ⟨ba, bb, rfl, al, bc⟩
   have cY := cU.callN al (own_ge bc) (own_lt bc)
   have bd := bS.trans al (by simp)
   refine ⟨_, rfl, bd, ?_⟩
   have cZ := own_fr cV al (by simp)
   have c0 := own_fr cW al (by simp)
   have c1 := mgsIn.fr cX al (by simp)
   have c2 := own_base (b' := 0) bc (fun _ _ => Nat.zero_le _)
   refine WD.new 14 (fun b => .slice (some ⟨b, 0, none⟩) 1 1) (.cells #[.int .i64 kind, .slice ba ((b :: more).length) bb, .slice none 0 0] 40) (by kernel_rfl) rfl rfl rfl rfl rfl (fun _ => by kernel_rfl) (fun c3 gi bT f3 ac c4 => ?_)
   have am := cY.callB ac bT c4
   have c5 := Nat.le_trans bd.size bT
   have bU := bd.trans ac (by simp)
   refine ⟨bU, ?_⟩
   have c6 := own_fr cZ ac (by simp)
   have c7 := own_fr c0 ac (by simp)
   have c8 := mgsIn.fr c1 ac (by simp)
   have c9 := own_fr c2 ac (by simp)
   obtain ⟨gj, gk, da, db, aP, an, eY, eZ⟩ := app_run Try.prog am 1 (v := .slice Am ms.length cm) rfl 34 34 40 3 56 ms.length 1 1 (some ⟨c3, 0, none⟩) rfl c7 [.int .i64 kind, .slice ba ((b :: more).length) bb, .slice none 0 0] rfl (srcOk.blk 1 (am.get 1 rfl)) rfl (by simp only [maxLen]; omega) (by omega)
   have bV := own_snoc (enc := cellsM) (ys := ms) (⟨kind, ba, bb, (b :: more)⟩ : Mg) db
   obtain ⟨bD, bE, rfl, fP⟩ := own_form bV
   have ao := bU.trans aP (fun x_ hx_ => .inl (List.mem_cons_of_mem _ hx_))
   refine WD.sem 15 (Builtin.append_ #[34, 34] 34 #[.slice Am ms.length cm, .slice (some ⟨c3, 0, none⟩) 1 1]) 21 (.slice bD (ms.length + 1) bE) (by kernel_rfl) (by kernel_rfl) da ao ?_
   have dc := own_fr c6 aP (am.disj 0 1 rfl rfl (by decide))
   have dd := mgsIn.fr c8 aP (am.disj 2 1 rfl rfl (by decide))
   have de := own_fr c9 aP (am.disj 4 1 rfl rfl (by decide))
   refine WDq hN 16 22 (.pointer (some ⟨p, 0, none⟩)) ao ?_
   refine WDq hN 17 23 (.pointer (some ⟨p, 3, none⟩)) ao ?_
   obtain ⟨gl, df, ap, bW⟩ := sto_run (c' := #[.int .i64 b, .bool o, .slice Av vs.length cv, .slice bD (ms.length + 1) bE]) Try.prog an 0 34 p 3 (.slice bD (ms.length + 1) bE) rfl (by kernel_rfl)
   have dg := ao.trans ap (by first | (simp; done) | (simp [*]; done) | (have q_ := ao.size; simp; omega))
   refine WD.semU 18 (Instr.storeAt 34 (.pointer (some ⟨p, 3, none⟩)) (.slice bD (ms.length + 1) bE)) (by kernel_rfl) (by kernel_rfl) df dg ?_
   have dh := own_fr dc ap (an.apartM 0 0 rfl rfl)
   have di := own_fr bV ap (an.apartM 1 0 rfl rfl)
   have dj := mgsIn.fr dd ap (an.apartM 2 0 rfl rfl)
   have be := own_fr de ap (an.apartM 4 0 rfl rfl)
   refine WD.done (by kernel_rfl) ?_
   refine (hret _ _ _ rfl ?_).2
   clear hN hret hret' 
   have hmg_ := dj.snoc (S := blk (.slice ba ((b :: more).length) bb)) (m := (⟨kind, ba, bb, b :: more⟩ : Mg)) (own_rd be (Go.Tw.encI_len _) (by decide)) (by simp only [List.length_cons]; omega) (fun b_ off_ e_ => blk_one e_) (own_lt be) (own_le be)
   have hsd_ := di
   obtain ⟨F2_, h1_, h2_⟩ := sp_close2 bW 0 0 1 2 4 rfl rfl rfl rfl rfl dh hsd_ hmg_ (show _ = V ++ [(kind, b :: more)] from by rw [List.map_append, hV_]; rfl) (by decide) (by decide) (by decide) (by decide) (by decide)
   exact ⟨F2_, rfl, bW.fr, h1_, h2_⟩
  ·
   refine WO.new 10 (fun b => .slice (some ⟨b, 0, none⟩) 1 1) (.cells #[.int .i64 b] 3) (by kernel_rfl) rfl rfl rfl rfl rfl (fun _ => by kernel_rfl) (fun aq dk bX f4 ad dl => ?_)
   have ar := hC3.callB ad bX dl
   have dm := Nat.le_trans hS4.size bX
   have ae := hS4.trans ad (by simp)
   refine ⟨ae, ?_⟩
   have bY := hf5.trans ad (by simp)
   have bZ := own_fr ho6 ad (by simp)
   have b0 := own_fr ho7 ad (by simp)
   have b1 := mgsIn.fr hf8 ad (by simp)
   refine WD.all2 4 12 (by kernel_rfl) ?_ ?_
   ·
    refine WO.sem 4 (Instr.loadAt 34 (.pointer (some ⟨p, 3, none⟩))) 10 (.slice Am ms.length cm) (by kernel_rfl) (by kernel_rfl) (run_ld (ar.get 0 rfl) rfl) ae ?_
    have dn : World.ownsRow dk 0 3 1 (.slice (some ⟨aq, 0, none⟩) 1 1) 1 ([b].flatMap (Go.Tw.encI .i64)) := own_of_blk (Nat.zero_le _) (ar.get 1 rfl) (Nat.le_refl _) (by decide) rfl rfl
    have aQ := ar.toF 1 rfl
    obtain ⟨gm, fQ, dp, dq, aR, dr, e0, bF⟩ := app_run Try.prog aQ 3 (v := .slice (some ⟨aq, 0, none⟩) 1 1) rfl 37 37 3 1 8 1 more.length c A rfl dn (more.flatMap (Go.Tw.encI .i64)) (flat_len_n (Go.Tw.encI_len _) (by first | rfl | assumption | (simp; done) | (simp; omega))) (Rd.src_n (Rd.fr hr bY) (Go.Tw.encI_len _) (by decide) (by first | rfl | assumption | (simp; done) | (simp; omega))) (flat_one (Go.Tw.encI_one _) _) (by simp only [maxLen]; omega) (by omega)
    have bf := own_app (enc := (Go.Tw.encI .i64)) (ys := [b]) (zs := more) dq
    obtain ⟨cz, cA, rfl, fR⟩ := own_form bf
    have bg : ∀ x_ ∈ blk (.slice (some ⟨aq, 0, none⟩) 1 1), w1.heap.size ≤ x_ := by first | (simp [blk, Value.ownBlock, *]; done) | (intro x_ hx_; simp [blk, Value.ownBlock] at hx_; omega)
    have fS : ∀ x_ ∈ blk (.slice cz (1 + more.length) cA), w1.heap.size ≤ x_ := fun x_ hx_ => (bF x_ hx_).elim (bg x_) (fun h_ => Nat.le_trans ae.size h_)
    have b2 := ae.trans aR (fun x_ hx_ => .inr (bg x_ hx_))
    refine WD.sem 12 (Builtin.append_ #[37, 37] 37 #[.slice (some ⟨aq, 0, none⟩) 1 1, .slice A more.length c]) 18 (.slice cz (1 + more.length) cA) (by kernel_rfl) (by kernel_rfl) dp b2 ?_
    have ds := own_fr bZ aR (aQ.disj 0 3 rfl rfl (by decide))
    have dt := own_fr b0 aR (aQ.disj 1 3 rfl rfl (by decide))
    have du := mgsIn.fr b1 aR (aQ.disj 2 3 rfl rfl (by decide))
    have hxs_ : [b] ++ more = (b :: more) := by simp
    refine WD.call 13 (by kernel_rfl) rfl rfl rfl rfl rfl (by kernel_rfl) (Make_x kind cz (1 + more.length) cA (b :: more) fQ (hxs_ ▸ (own_rd bf (Go.Tw.encI_len _) (by decide))) (by rw [← hxs_]; exact (own_count (Go.Tw.encI_len _) (by decide) bf)) (by omega)) ?_
    rintro _ gn ⟨bh, bi, rfl, au, bj⟩
    have dv := dr.callN au (own_ge bj) (own_lt bj)
    have bk := b2.trans au (by simp)
    refine ⟨_, rfl, bk, ?_⟩
    have dw := own_fr ds au (by simp)
    have dx := own_fr dt au (by simp)
    have dy := mgsIn.fr du au (by simp)
    have dz := own_base (b' := 0) bj (fun _ _ => Nat.zero_le _)
    refine WD.new 14 (fun b => .slice (some ⟨b, 0, none⟩) 1 1) (.cells #[.int .i64 kind, .slice bh ((b :: more).length) bi, .slice none 0 0] 40) (by kernel_rfl) rfl rfl rfl rfl rfl (fun _ => by kernel_rfl) (fun dA go b3 f5 af dB => ?_)
    have av := dv.callB af b3 dB
    have dC := Nat.le_trans bk.size b3
    have b4 := bk.trans af (by simp)
    refine ⟨b4, ?_⟩
    have dD := own_fr dw af (by simp)
    have dE := own_fr dx af (by simp)
    have dF := mgsIn.fr dy af (by simp)
    have dG := own_fr dz af (by simp)
    obtain ⟨gp, gq, dH, dI, aS, aw, e1, e2⟩ := app_run Try.prog av 1 (v := .slice Am ms.length cm) rfl 34 34 40 3 56 ms.length 1 1 (some ⟨dA, 0, none⟩) rfl dE [.int .i64 kind, .slice bh ((b :: more).length) bi, .slice none 0 0] rfl (srcOk.blk 1 (av.get 1 rfl)) rfl (by simp only [maxLen]; omega) (by omega)
    have b5 := own_snoc (enc := cellsM) (ys := ms) (⟨kind, bh, bi, (b :: more)⟩ : Mg) dI
    obtain ⟨bG, bH, rfl, fT⟩ := own_form b5
    have ax := b4.trans aS (fun x_ hx_ => .inl (List.mem_cons_of_mem _ hx_))
    refine WD.sem 15 (Builtin.append_ #[34, 34] 34 #[.slice Am ms.length cm, .slice (some ⟨dA, 0, none⟩) 1 1]) 21 (.slice bG (ms.length + 1) bH) (by kernel_rfl) (by kernel_rfl) dH ax ?_
    have dJ := own_fr dD aS (av.disj 0 1 rfl rfl (by decide))
    have dK := mgsIn.fr dF aS (av.disj 2 1 rfl rfl (by decide))
    have dL := own_fr dG aS (av.disj 4 1 rfl rfl (by decide))
    refine WDq hN 16 22 (.pointer (some ⟨p, 0, none⟩)) ax ?_
    refine WDq hN 17 23 (.pointer (some ⟨p, 3, none⟩)) ax ?_
    obtain ⟨gr, dM, ay, b6⟩ := sto_run (c' := #[.int .i64 b, .bool o, .slice Av vs.length cv, .slice bG (ms.length + 1) bH]) Try.prog aw 0 34 p 3 (.slice bG (ms.length + 1) bH) rfl (by kernel_rfl)
    have dN := ax.trans ay (by first | (simp; done) | (simp [*]; done) | (have q_ := ax.size; simp; omega))
    refine WD.semU 18 (Instr.storeAt 34 (.pointer (some ⟨p, 3, none⟩)) (.slice bG (ms.length + 1) bH)) (by kernel_rfl) (by kernel_rfl) dM dN ?_
    have dO := own_fr dJ ay (aw.apartM 0 0 rfl rfl)
    have dP := own_fr b5 ay (aw.apartM 1 0 rfl rfl)
    have dQ := mgsIn.fr dK ay (aw.apartM 2 0 rfl rfl)
    have bl := own_fr dL ay (aw.apartM 4 0 rfl rfl)
    refine WD.done (by kernel_rfl) ?_
    refine (hret _ _ _ rfl ?_).2
    clear hN hret hret' 
    have hmg_ := dQ.snoc (S := blk (.slice bh ((b :: more).length) bi)) (m := (⟨kind, bh, bi, b :: more⟩ : Mg)) (own_rd bl (Go.Tw.encI_len _) (by decide)) (by simp only [List.length_cons]; omega) (fun b_ off_ e_ => blk_one e_) (own_lt bl) (own_le bl)
    have hsd_ := dP
    obtain ⟨F2_, h1_, h2_⟩ := sp_close2 b6 0 0 1 2 4 rfl rfl rfl rfl rfl dO hsd_ hmg_ (show _ = V ++ [(kind, b :: more)] from by rw [List.map_append, hV_]; rfl) (by decide) (by decide) (by decide) (by decide) (by decide)
    exact ⟨F2_, rfl, b6.fr, h1_, h2_⟩
   ·
    have dR : World.ownsRow dk 0 3 1 (.slice (some ⟨aq, 0, none⟩) 1 1) 1 ([b].flatMap (Go.Tw.encI .i64)) := own_of_blk (Nat.zero_le _) (ar.get 1 rfl) (Nat.le_refl _) (by decide) rfl rfl
    have aT := ar.toF 1 rfl
    obtain ⟨gs, dS, dT, dU, aU, bm, e3, bI⟩ := app_run Try.prog aT 3 (v := .slice (some ⟨aq, 0, none⟩) 1 1) rfl 37 37 3 1 8 1 more.length c A rfl dR (more.flatMap (Go.Tw.encI .i64)) (flat_len_n (Go.Tw.encI_len _) (by first | rfl | assumption | (simp; done) | (simp; omega))) (Rd.src_n (Rd.fr hr bY) (Go.Tw.encI_len _) (by decide) (by first | rfl | assumption | (simp; done) | (simp; omega))) (flat_one (Go.Tw.encI_one _) _) (by simp only [maxLen]; omega) (by omega)
    have az := own_app (enc := (Go.Tw.encI .i64)) (ys := [b]) (zs := more) dU
    obtain ⟨bJ, bK, rfl, fU⟩ := own_form az
    have bn : ∀ x_ ∈ blk (.slice (some ⟨aq, 0, none⟩) 1 1), w1.heap.size ≤ x_ := by first | (simp [blk, Value.ownBlock, *]; done) | (intro x_ hx_; simp [blk, Value.ownBlock] at hx_; omega)
    have fV : ∀ x_ ∈ blk (.slice bJ (1 + more.length) bK), w1.heap.size ≤ x_ := fun x_ hx_ => (bI x_ hx_).elim (bn x_) (fun h_ => Nat.le_trans ae.size h_)
    have aV := ae.trans aU (fun x_ hx_ => .inr (bn x_ hx_))
    refine WO.sem 12 (Builtin.append_ #[37, 37] 37 #[.slice (some ⟨aq, 0, none⟩) 1 1, .slice A more.length c]) 18 (.slice bJ (1 + more.length) bK) (by kernel_rfl) (by kernel_rfl) dT aV ?_
    have b7 := own_fr bZ aU (aT.disj 0 3 rfl rfl (by decide))
    have b8 := own_fr b0 aU (aT.disj 1 3 rfl rfl (by decide))
    have b9 := mgsIn.fr b1 aU (aT.disj 2 3 rfl rfl (by decide))
    refine WD.all2 4 13 (by kernel_rfl) ?_ ?_
    ·
     refine WO.sem 4 (Instr.loadAt 34 (.pointer (some ⟨p, 3, none⟩))) 10 (.slice Am ms.length cm) (by kernel_rfl) (by kernel_rfl) (run_ld (bm.get 0 rfl) rfl) aV ?_
     have hxs_ : [b] ++ more = (b :: more) := by simp
     refine WD.call 13 (by kernel_rfl) rfl rfl rfl rfl rfl (by kernel_rfl) (Make_x kind bJ (1 + more.length) bK (b :: more) dS (hxs_ ▸ (own_rd az (Go.Tw.encI_len _) (by decide))) (by rw [← hxs_]; exact (own_count (Go.Tw.encI_len _) (by decide) az)) (by omega)) ?_
     rintro _ gu ⟨bo, bp, rfl, aA, bq⟩
     have dW := bm.callN aA (own_ge bq) (own_lt bq)
     have br := aV.trans aA (by simp)
     refine ⟨_, rfl, br, ?_⟩
     have dX := own_fr b7 aA (by simp)
     have dY := own_fr b8 aA (by simp)
     have dZ := mgsIn.fr b9 aA (by simp)
     have d0 := own_base (b' := 0) bq (fun _ _ => Nat.zero_le _)
     refine WD.new 14 (fun b => .slice (some ⟨b, 0, none⟩) 1 1) (.cells #[.int .i64 kind, .slice bo ((b :: more).length) bp, .slice none 0 0] 40) (by kernel_rfl) rfl rfl rfl rfl rfl (fun _ => by kernel_rfl) (fun d1 gv ca f6 ag d2 => ?_)
     have aB := dW.callB ag ca d2
     have d3 := Nat.le_trans br.size ca
     have cb := br.trans ag (by simp)
     refine ⟨cb, ?_⟩
     have d4 := own_fr dX ag (by simp)
     have d5 := own_fr dY ag (by simp)
     have d6 := mgsIn.fr dZ ag (by simp)
     have d7 := own_fr d0 ag (by simp)
     obtain ⟨gw, gx, d8, d9, aW, aC, e4, e5⟩ := app_run Try.prog aB 1 (v := .slice Am ms.length cm) rfl 34 34 40 3 56 ms.length 1 1 (some ⟨d1, 0, none⟩) rfl d5 [.int .i64 kind, .slice bo ((b :: more).length) bp, .slice none 0 0] rfl (srcOk.blk 1 (aB.get 1 rfl)) rfl (by simp only [maxLen]; omega) (by omega)
     have cc := own_snoc (enc := cellsM) (ys := ms) (⟨kind, bo, bp, (b :: more)⟩ : Mg) d9
     obtain ⟨bL, bM, rfl, fW⟩ := own_form cc
     have aD := cb.trans aW (fun x_ hx_ => .inl (List.mem_cons_of_mem _ hx_))
     refine WD.sem 15 (Builtin.append_ #[34, 34] 34 #[.slice Am ms.length cm, .slice (some ⟨d1, 0, none⟩) 1 1]) 21 (.slice bL (ms.length + 1) bM) (by kernel_rfl) (by kernel_rfl) d8 aD ?_
     have ea := own_fr d4 aW (aB.disj 0 1 rfl rfl (by decide))
     have eb := mgsIn.fr d6 aW (aB.disj 2 1 rfl rfl (by decide))
     have ec := own_fr d7 aW (aB.disj 4 1 rfl rfl (by decide))
     refine WDq hN 16 22 (.pointer (some ⟨p, 0, none⟩)) aD ?_
     refine WDq hN 17 23 (.pointer (some ⟨p, 3, none⟩)) aD ?_
     obtain ⟨gy, ed, aE, cd⟩ := sto_run (c' := #[.int .i64 b, .bool o, .slice Av vs.length cv, .slice bL (ms.length + 1) bM]) Try.prog aC 0 34 p 3 (.slice bL (ms.length + 1) bM) rfl (by kernel_rfl)
     have ee := aD.trans aE (by first | (simp; done) | (simp [*]; done) | (have q_ := aD.size; simp; omega))
     refine WD.semU 18 (Instr.storeAt 34 (.pointer (some ⟨p, 3, none⟩)) (.slice bL (ms.length + 1) bM)) (by kernel_rfl) (by kernel_rfl) ed ee ?_
     have ef := own_fr ea aE (aC.apartM 0 0 rfl rfl)
     have eg := own_fr cc aE (aC.apartM 1 0 rfl rfl)
     have eh := mgsIn.fr eb aE (aC.apartM 2 0 rfl rfl)
     have bs := own_fr ec aE (aC.apartM 4 0 rfl rfl)
     refine WD.done (by kernel_rfl) ?_
     refine (hret _ _ _ rfl ?_).2
     clear hN hret hret' 
     have hmg_ := eh.snoc (S := blk (.slice bo ((b :: more).length) bp)) (m := (⟨kind, bo, bp, b :: more⟩ : Mg)) (own_rd bs (Go.Tw.encI_len _) (by decide)) (by simp only [List.length_cons]; omega) (fun b_ off_ e_ => blk_one e_) (own_lt bs) (own_le bs)
     have hsd_ := eg
     obtain ⟨F2_, h1_, h2_⟩ := sp_close2 cd 0 0 1 2 4 rfl rfl rfl rfl rfl ef hsd_ hmg_ (show _ = V ++ [(kind, b :: more)] from by rw [List.map_append, hV_]; rfl) (by decide) (by decide) (by decide) (by decide) (by decide)
     exact ⟨F2_, rfl, cd.fr, h1_, h2_⟩
    ·
     have hxs_ : [b] ++ more = (b :: more) := by simp
     refine WO.call 13 (by kernel_rfl) rfl rfl rfl rfl rfl (by kernel_rfl) (Make_x kind bJ (1 + more.length) bK (b :: more) dS (hxs_ ▸ (own_rd az (Go.Tw.encI_len _) (by decide))) (by rw [← hxs_]; exact (own_count (Go.Tw.encI_len _) (by decide) az)) (by omega)) ?_
     rintro _ gz ⟨aa, ab, rfl, aF, bt⟩
     have bu := bm.callN aF (own_ge bt) (own_lt bt)
     have ah := aV.trans aF (by simp)
     refine ⟨_, rfl, ah, ?_⟩
     have ce := own_fr b7 aF (by simp)
     have cf := own_fr b8 aF (by simp)
     have cg := mgsIn.fr b9 aF (by simp)
     have ch := own_base (b' := 0) bt (fun _ _ => Nat.zero_le _)
     refine WD.all2 4 14 (by kernel_rfl) ?_ ?_
     ·
      refine WO.sem 4 (Instr.loadAt 34 (.pointer (some ⟨p, 3, none⟩))) 10 (.slice Am ms.length cm) (by kernel_rfl) (by kernel_rfl) (run_ld (bu.get 0 rfl) rfl) ah ?_
      refine WD.new 14 (fun b => .slice (some ⟨b, 0, none⟩) 1 1) (.cells #[.int .i64 kind, .slice aa ((b :: more).length) ab, .slice none 0 0] 40) (by kernel_rfl) rfl rfl rfl rfl rfl (fun _ => by kernel_rfl) (fun ei gA ci f7 ai ej => ?_)
      have aG := bu.callB ai ci ej
      have ek := Nat.le_trans ah.size ci
      have cj := ah.trans ai (by simp)
      refine ⟨cj, ?_⟩
      have em := own_fr ce ai (by simp)
      have en := own_fr cf ai (by simp)
      have eo := mgsIn.fr cg ai (by simp)
      have ep := own_fr ch ai (by simp)
      obtain ⟨gB, gC, er, es, aX, aH, e6, e7⟩ := app_run Try.prog aG 1 (v := .slice Am ms.length cm) rfl 34 34 40 3 56 ms.length 1 1 (some ⟨ei, 0, none⟩) rfl en [.int .i64 kind, .slice aa ((b :: more).length) ab, .slice none 0 0] rfl (srcOk.blk 1 (aG.get 1 rfl)) rfl (by simp only [maxLen]; omega) (by omega)
      have ck := own_snoc (enc := cellsM) (ys := ms) (⟨kind, aa, ab, (b :: more)⟩ : Mg) es
      obtain ⟨bN, bO, rfl, fX⟩ := own_form ck
      have aI := cj.trans aX (fun x_ hx_ => .inl (List.mem_cons_of_mem _ hx_))
      refine WD.sem 15 (Builtin.append_ #[34, 34] 34 #[.slice Am ms.length cm, .slice (some ⟨ei, 0, none⟩) 1 1]) 21 (.slice bN (ms.length + 1) bO) (by kernel_rfl) (by kernel_rfl) er aI ?_
      have et := own_fr em aX (aG.disj 0 1 rfl rfl (by decide))
      have eu := mgsIn.fr eo aX (aG.disj 2 1 rfl rfl (by decide))
      have ev := own_fr ep aX (aG.disj 4 1 rfl rfl (by decide))
      refine WDq hN 16 22 (.pointer (some ⟨p, 0, none⟩)) aI ?_
      refine WDq hN 17 23 (.pointer (some ⟨p, 3, none⟩)) aI ?_
      obtain ⟨gD, ew, aJ, cl⟩ := sto_run (c' := #[.int .i64 b, .bool o, .slice Av vs.length cv, .slice bN (ms.length + 1) bO]) Try.prog aH 0 34 p 3 (.slice bN (ms.length + 1) bO) rfl (by kernel_rfl)
      have ex := aI.trans aJ (by first | (simp; done) | (simp [*]; done) | (have q_ := aI.size; simp; omega))
      refine WD.semU 18 (Instr.storeAt 34 (.pointer (some ⟨p, 3, none⟩)) (.slice bN (ms.length + 1) bO)) (by kernel_rfl) (by kernel_rfl) ew ex ?_
      have ey := own_fr et aJ (aH.apartM 0 0 rfl rfl)
      have ez := own_fr ck aJ (aH.apartM 1 0 rfl rfl)
      have eA := mgsIn.fr eu aJ (aH.apartM 2 0 rfl rfl)
      have bv := own_fr ev aJ (aH.apartM 4 0 rfl rfl)
      refine WD.done (by kernel_rfl) ?_
      refine (hret _ _ _ rfl ?_).2
      clear hN hret hret' 
      have hmg_ := eA.snoc (S := blk (.slice aa ((b :: more).length) ab)) (m := (⟨kind, aa, ab, b :: more⟩ : Mg)) (own_rd bv (Go.Tw.encI_len _) (by decide)) (by simp only [List.length_cons]; omega) (fun b_ off_ e_ => blk_one e_) (own_lt bv) (own_le bv)
      have hsd_ := ez
      obtain ⟨F2_, h1_, h2_⟩ := sp_close2 cl 0 0 1 2 4 rfl rfl rfl rfl rfl ey hsd_ hmg_ (show _ = V ++ [(kind, b :: more)] from by rw [List.map_append, hV_]; rfl) (by decide) (by decide) (by decide) (by decide) (by decide)
      exact ⟨F2_, rfl, cl.fr, h1_, h2_⟩
     ·
      refine WO.new 14 (fun b => .slice (some ⟨b, 0, none⟩) 1 1) (.cells #[.int .i64 kind, .slice aa ((b :: more).length) ab, .slice none 0 0] 40) (by kernel_rfl) rfl rfl rfl rfl rfl (fun _ => by kernel_rfl) (fun eB gE cn f8 aj eC => ?_)
      have ak := bu.callB aj cn eC
      have eD := Nat.le_trans ah.size cn
      have bw := ah.trans aj (by simp)
      refine ⟨bw, ?_⟩
      have eE := own_fr ce aj (by simp)
      have eF := own_fr cf aj (by simp)
      have eG := mgsIn.fr cg aj (by simp)
      have eH := own_fr ch aj (by simp)
      refine WD.sem 4 (Instr.loadAt 34 (.pointer (some ⟨p, 3, none⟩))) 10 (.slice Am ms.length cm) (by kernel_rfl) (by kernel_rfl) (run_ld (ak.get 0 rfl) rfl) bw ?_
      obtain ⟨gF, gG, eI, eJ, aY, aK, e8, e9⟩ := app_run Try.prog ak 1 (v := .slice Am ms.length cm) rfl 34 34 40 3 56 ms.length 1 1 (some ⟨eB, 0, none⟩) rfl eF [.int .i64 kind, .slice aa ((b :: more).length) ab, .slice none 0 0] rfl (srcOk.blk 1 (ak.get 1 rfl)) rfl (by simp only [maxLen]; omega) (by omega)
      have co := own_snoc (enc := cellsM) (ys := ms) (⟨kind, aa, ab, (b :: more)⟩ : Mg) eJ
      obtain ⟨bP, bQ, rfl, fY⟩ := own_form co
      have aL := bw.trans aY (fun x_ hx_ => .inl (List.mem_cons_of_mem _ hx_))
      refine WD.sem 15 (Builtin.append_ #[34, 34] 34 #[.slice Am ms.length cm, .slice (some ⟨eB, 0, none⟩) 1 1]) 21 (.slice bP (ms.length + 1) bQ) (by kernel_rfl) (by kernel_rfl) eI aL ?_
      have eK := own_fr eE aY (ak.disj 0 1 rfl rfl (by decide))
      have eL := mgsIn.fr eG aY (ak.disj 2 1 rfl rfl (by decide))
      have eM := own_fr eH aY (ak.disj 4 1 rfl rfl (by decide))
      refine WDq hN 16 22 (.pointer (some ⟨p, 0, none⟩)) aL ?_
      refine WDq hN 17 23 (.pointer (some ⟨p, 3, none⟩)) aL ?_
      obtain ⟨gH, eN, aM, cp⟩ := sto_run (c' := #[.int .i64 b, .bool o, .slice Av vs.length cv, .slice bP (ms.length + 1) bQ]) Try.prog aK 0 34 p 3 (.slice bP (ms.length + 1) bQ) rfl (by kernel_rfl)
      have eO := aL.trans aM (by first | (simp; done) | (simp [*]; done) | (have q_ := aL.size; simp; omega))
      refine WD.semU 18 (Instr.storeAt 34 (.pointer (some ⟨p, 3, none⟩)) (.slice bP (ms.length + 1) bQ)) (by kernel_rfl) (by kernel_rfl) eN eO ?_
      have eP := own_fr eK aM (aK.apartM 0 0 rfl rfl)
      have eQ := own_fr co aM (aK.apartM 1 0 rfl rfl)
      have eR := mgsIn.fr eL aM (aK.apartM 2 0 rfl rfl)
      have bx := own_fr eM aM (aK.apartM 4 0 rfl rfl)
      refine WD.done (by kernel_rfl) ?_
      refine (hret _ _ _ rfl ?_).2
      clear hN hret hret' 
      have hmg_ := eR.snoc (S := blk (.slice aa ((b :: more).length) ab)) (m := (⟨kind, aa, ab, b :: more⟩ : Mg)) (own_rd bx (Go.Tw.encI_len _) (by decide)) (by simp only [List.length_cons]; omega) (fun b_ off_ e_ => blk_one e_) (own_lt bx) (own_le bx)
      have hsd_ := eQ
      obtain ⟨F2_, h1_, h2_⟩ := sp_close2 cp 0 0 1 2 4 rfl rfl rfl rfl rfl eP hsd_ hmg_ (show _ = V ++ [(kind, b :: more)] from by rw [List.map_append, hV_]; rfl) (by decide) (by decide) (by decide) (by decide) (by decide)
      exact ⟨F2_, rfl, cp.fr, h1_, h2_⟩

theorem sayG_n (F : List Nat) (p : Nat) (b : Int) (o : Bool) (vs : List Int) (V : List (Int × List Int)) (kind : Int) (A : Option Addr) (n c : Nat) (more : List Int) (hn : more.length = n) (w : World) (ht : spAt 78 w F p b o vs V) (hr : Rd w 1 (Go.Tw.encI .i64) A more) (hl : n ≤ 60) (hml : V.length ≤ 1099511627776) : Calls Try.prog 45 #[.pointer (some ⟨p, 0, none⟩), .int .i64 kind, .slice A n c] w fun e w' => ∃ F', e = .returned (.tuple #[]) ∧ Fr w w' F ∧ spAt 78 w' F' p b o vs (V ++ [(kind, b :: more)]) ∧ ∀ x ∈ F', x ∈ F ∨ w.heap.size ≤ x := by subst hn; exact sayG_ct F p b o vs V kind A c more w ht hr hl hml
set_option maxHeartbeats 1000000 in
theorem routesG_ct (F : List Nat) (p : Nat) (b : Int) (o : Bool) (vs : List Int) (V : List (Int × List Int))  (w : World) (ht : spAt 78 w F p b o vs V) (hvk : vs.length ≤ 39 ∧ ∀ x ∈ vs, 0 ≤ x ∧ x ≤ 4294967295) (hml : V.length ≤ 1099511627776) : Calls Try.prog 42 #[.pointer (some ⟨p, 0, none⟩)] w fun e w' => ∃ F', e = .returned (.tuple #[]) ∧ Fr w w' F ∧ spAt 78 w' F' p b o vs (V ++ [(12, b :: vs)]) ∧ ∀ x ∈ F', x ∈ F ∨ w.heap.size ≤ x := by
 refine enterD (n := 23) Try.func42 rfl rfl (Nat.le_of_ble_eq_true rfl) ?_
 intro Q0 hN hret hret'
 have ht0 := ht
 obtain ⟨Av, cv, Am, cm, ms, R, hp_, hv_, hs_, hg_, hV_, rfl, pA_, pB_, pR_, dAB_, dAR_, dBR_⟩ := ht
 have hC := Cx.open3 hp_ (own_lt hv_) (own_lt hs_) hg_.2 pA_ pB_ pR_ dAB_ dAR_ dBR_
 have hcm_ := own_le hs_
 have hcx_ : ms.length = V.length := by rw [← hV_, List.length_map]
 have hvl_ := own_max hv_
 refine WCs (fun K1 hK2 => ?_)
 refine WCg (WLq 1 [(2, .slice none 0 0)] (WLd rfl (QXn (hK2 _ _ ?_))))
 refine WCs (fun K3 hK4 => ?_)
 refine WCs (fun K5 hK6 => ?_)
 refine WCg (WLq 3 [(7, .pointer (some ⟨p, 2, none⟩)), (6, .pointer (some ⟨p, 0, none⟩)), (5, .pointer (some ⟨p, 0, none⟩))] ?_)
 refine WLo 33 (.pointer (some ⟨p, 2, none⟩)) (.slice Av vs.length cv) 8 (run_ld (hC.get 0 rfl) rfl) ?_
 refine WLq 2 [(10, .int .i64 0), (9, .int .i64 (vs.length : Int))] (WLd rfl (QXn (hK6 _ _ ?_)))
 refine WC.block ?_
 have hC7 := hC.addNil
 refine WC.loop (fun m_ E_ w_ => ∃ (i : Nat) (A5 : Option Addr) (n5 c5 : Nat), m_ = vs.length - i ∧ E_ = [(0, .pointer (some ⟨p, 0, none⟩)), (2, .slice A5 n5 c5), (8, .slice Av vs.length cv), (9, .int .i64 (vs.length : Int)), (10, .int .i64 (i : Int))] ∧ Cx w (p :: (blk (.slice Av vs.length cv) ++ (blk (.slice Am ms.length cm) ++ R))) w_ [(p, .cells #[.int .i64 b, .bool o, .slice Av vs.length cv, .slice Am ms.length cm] 78)] [blk (.slice Av vs.length cv), blk (.slice Am ms.length cm), R, blk (.slice A5 n5 c5)] ∧ World.ownsRow w_ 0 44 1 (.slice Av vs.length cv) vs.length (vs.flatMap (Go.Tw.encI .u32)) ∧ World.ownsRow w_ 0 40 3 (.slice Am ms.length cm) ms.length (ms.flatMap cellsM) ∧ mgsIn w_ R ms ∧ World.ownsRow w_ 0 3 1 (.slice A5 n5 c5) n5 ((vs.take i).flatMap (Go.Tw.encI .i64)) ∧ (i ≤ vs.length)) ⟨_, _, ⟨0, none, 0, 0, rfl, rfl, hC7, hv_, hs_, hg_, own_nil _ _ _ _, Nat.zero_le _⟩, sub_of ⟨rfl, rfl, rfl, rfl, rfl, trivial⟩⟩ (fun m11 E_ aQ K8 hK9 ap => ?_)
 obtain ⟨i, A5, n5, c5, rfl, rfl, ac, vps_m11, said_m11, mg_m11, hrow, hi⟩ := ap
 have hcn_ := own_count (Go.Tw.encI_len _) (by decide) hrow
 rw [List.length_take] at hcn_
 refine WCs (fun aU aq => ?_)
 refine WCg (WLq 1 [(11, .bool (decide ((i : Int) < (vs.length : Int))))] (WLd rfl (QXn (aq _ _ ?_))))
 refine WCs (fun aV ar => ?_)
 refine WCa 11 (decide ((i : Int) < (vs.length : Int))) rfl (fun ag => ?_) (fun ag => ?_)
 ·
  have aR : (i : Int) < (vs.length : Int) := by have q_ := of_decide_eq_true ag; omega
  refine WCt rfl ?_
  refine WC.skip ?_
  refine QXn (ar _ _ ?_)
  refine WCs (fun aW au => ?_)
  refine WC.block ?_
  refine WCs (fun aX av => ?_)
  refine WCg ?_
  have aS := own_count (Go.Tw.encI_len _) (by decide) vps_m11
  obtain ⟨ad, ae⟩ := get_some (xs := vs) (i := i) (by omega)
  obtain ⟨b25, ak⟩ := own_addr (by decide) (Go.Tw.encI_len _) vps_m11 ae
  refine WLi Av vs.length cv 12 .i64 (i : Int) b25 0 i 1 (by kernel_rfl) ak (by omega) (by omega) i (by first | (simp; done) | omega) ?_
  refine WLo 44 (.pointer (some ⟨b25, i, none⟩)) (.int .u32 ad) 13 (run_load1 rfl (by simpa [Nat.add_assoc] using Rd.cell (own_rd vps_m11 (Go.Tw.encI_len _) (by decide)) ak ae 0 _ rfl)) ?_
  refine WLq 1 [(4, .int .u32 ad)] (WLd rfl (QXn (av _ _ ?_)))
  refine WCg ?_
  obtain ⟨hvb0_, hvb1_⟩ := hvk.2 _ (List.mem_of_getElem? ae)
  refine WLq 3 [(16, .int .i64 (IntKind.i64.wrap (ad))), (15, .int .u32 ad), (14, .slice A5 n5 c5)] ?_
  refine WLt (show (.int .i64 (IntKind.i64.wrap (ad)) : Value) = .int .i64 ad from by rw [wrap_in_i64 _ (by omega) (by omega)]) ?_
  refine WL.newM ac (fun b => .slice (some ⟨b, 0, none⟩) 1 1) (.cells #[.int .i64 ad] 3) 17 (fun _ => by kernel_rfl) (fun aO aY aT af aa => ?_)
  have aw := own_fr vps_m11 af (by simp)
  have ax := own_fr said_m11 af (by simp)
  have ay := mgsIn.fr mg_m11 af (by simp)
  have az := own_fr hrow af (by simp)
  obtain ⟨aZ, a0, aA, aB, ah, aC, aD, aE⟩ := app_run Try.prog aa 3 (v := .slice A5 n5 c5) rfl 37 37 3 1 8 n5 1 1 (some ⟨aO, 0, none⟩) rfl az [.int .i64 ad] rfl (srcOk.blk 1 (aa.get 1 rfl)) rfl (by simp only [maxLen]; omega) (by omega)
  have al := own_snoc (enc := (Go.Tw.encI .i64)) (ys := (vs.take i)) ad aB
  obtain ⟨aF, aG, rfl, aP⟩ := own_form al
  refine WL.sem (Builtin.append_ #[37, 37] 37 #[.slice A5 n5 c5, .slice (some ⟨aO, 0, none⟩) 1 1]) 18 (.slice aF (n5 + 1) aG) (by kernel_rfl) aA ?_
  have aH := own_fr aw ah (aa.disj 0 3 rfl rfl (by decide))
  have aI := own_fr ax ah (aa.disj 1 3 rfl rfl (by decide))
  have aJ := mgsIn.fr ay ah (aa.disj 2 3 rfl rfl (by decide))
  refine WLq 1 [(2, .slice aF (n5 + 1) aG)] ?_
  refine WLd rfl ?_
  refine QXb ?_
  refine QXn (au _ _ ?_)
  refine WCg (WLq 1 [(19, .int .i64 (IntKind.i64.wrap ((i : Int) + 1)))] ?_)
  refine WLt (show (.int .i64 (IntKind.i64.wrap ((i : Int) + 1)) : Value) = .int .i64 ((i : Int) + 1) from by rw [wrap_in_i64 ((i : Int) + 1) (by omega) (by omega)]) ?_
  refine WLq 1 [(10, .int .i64 ((i : Int) + 1))] ?_
  refine WLd rfl ?_
  refine QXn ?_
  have aK := aC.pick [0] [0, 1, 2, 3] rfl rfl
  refine fun a_ ha_ => hK9 _ _ _ ?_ ⟨i + 1, aF, n5 + 1, aG, rfl, rfl, aK, aH, aI, aJ, (by rw [take_snocI ae]; exact al), by omega⟩ a_ (ha_.weaken (sub_of ⟨rfl, rfl, rfl, rfl, rfl, trivial⟩))
  omega
 ·
  have aR : (vs.length : Int) ≤ (i : Int) := by have q_ := of_decide_eq_false ag; omega
  refine WCf rfl ?_
  refine WC.exit ?_
  refine QXe ?_
  refine QXe ?_
  refine QX.block_hit ?_
  refine QXn (hK4 _ _ ?_)
  refine WCg (WLq 2 [(21, .slice A5 n5 c5), (20, .pointer (some ⟨p, 0, none⟩))] ?_)
  have ai := hrow
  rw [List.take_of_length_le (by omega)] at ai
  have hln_ := own_count (Go.Tw.encI_len _) (by decide) ai
  obtain ⟨F54, am, ab⟩ := sp_close ac 0 0 1 2 rfl rfl rfl rfl vps_m11 said_m11 mg_m11 hV_ (by decide) (by decide) (by decide)
  refine WLc rfl rfl rfl rfl rfl (by kernel_rfl) (sayG_n F54 p b o vs V 12 A5 n5 c5 vs hln_ aQ am (own_rd ai (Go.Tw.encI_len _) (by decide)) (by omega) hml) ?_
  rintro _ a1 ⟨F57, rfl, aL, an, aj⟩
  have ao := ac.fr.trans aL ab
  have aM := Cx.done ao
  have aN := fun x_ hx_ => (aj x_ hx_).elim (ab x_) (fun h_ => Or.inr (Nat.le_trans ac.fr.size h_))
  refine ⟨_, rfl, ?_⟩
  refine WLd rfl ?_
  refine (hret _ _ _ rfl ?_).2
  exact ⟨F57, rfl, aM.fr, an, aN⟩

set_option maxHeartbeats 1000000 in
theorem TickG_ct (F : List Nat) (p : Nat) (b : Int) (o : Bool) (vs : List Int) (V : List (Int × List Int)) (now : Int)  (w : World) (ht : spAt 78 w F p b o vs V) (hvk : vs.length ≤ 39 ∧ ∀ x ∈ vs, 0 ≤ x ∧ x ≤ 4294967295) (hml : V.length ≤ 1099511627776) : Calls Try.prog 16 #[.pointer (some ⟨p, 0, none⟩), .int .i64 now] w fun e w' => ∃ F', e = .returned (.tuple #[]) ∧ Fr w w' F ∧ spAt 78 w' F' p b o vs (V ++ tickV b o vs now) ∧ ∀ x ∈ F', x ∈ F ∨ w.heap.size ≤ x := by
 refine enterD (n := 26) Try.func16 rfl rfl (Nat.le_of_ble_eq_true rfl) ?_
 intro Q0 hN hret hret'
 have ht0 := ht
 obtain ⟨Av, cv, Am, cm, ms, R, hp_, hv_, hs_, hg_, hV_, rfl, pA_, pB_, pR_, dAB_, dAR_, dBR_⟩ := ht
 have hC := Cx.open3 hp_ (own_lt hv_) (own_lt hs_) hg_.2 pA_ pB_ pR_ dAB_ dAR_ dBR_
 have hcm_ := own_le hs_
 have hcx_ : ms.length = V.length := by rw [← hV_, List.length_map]
 have hvl_ := own_max hv_
 refine WC.block ?_
 refine WCs (fun K1 hK2 => ?_)
 refine WCg (WLq 4 [(10, .int .i64 now), (9, .bool false), (8, .bool false), (7, .pointer (some ⟨p, 0, none⟩))] ?_)
 refine WLc rfl rfl rfl rfl rfl (by kernel_rfl) (goodTime_ct now w) ?_
 rintro _ w4 ⟨rfl, hF3⟩
 refine ⟨_, rfl, ?_⟩
 have hC5 := hC.call hF3
 have hf6 := (Fr.refl w []).trans hF3 (by simp)
 have ho7 := own_fr hv_ hF3 (by simp)
 have ho8 := own_fr hs_ hF3 (by simp)
 have hf9 := mgsIn.fr hg_ hF3 (by simp)
 refine WLq 3 [(14, .bool (!(timB now))), (13, .bool (!(timB now))), (12, .bool (!(timB now)))] ?_
 refine WLa 14 (!(timB now)) rfl (fun ab => ?_) (fun ab => ?_)
 ·
  have au : (timB now) = false := by first | (simpa only [Bool.not_eq_true', Bool.not_eq_false'] using ab) | simpa using ab
  refine WLq 5 [(6, .bool true), (18, .bool true), (17, undef), (16, undef), (15, undef)] (WLd rfl (QXn (hK2 _ _ ?_)))
  refine WCt rfl ?_
  refine WC.skip ?_
  refine QXb ?_
  refine (hret _ _ _ rfl ?_).2
  clear hN hret hret' hK2
  have hz_ : tickV b o vs now = [] := if_neg (fun q_ => by rw [au] at q_; cases q_.1)
  obtain ⟨F11, ak, ae⟩ := sp_close hC5 0 0 1 2 rfl rfl rfl rfl ho7 ho8 hf9 (show _ = V ++ tickV b o vs now from by rw [hz_, List.append_nil]; exact hV_) (by decide) (by decide) (by decide)
  exact ⟨F11, rfl, hC5.fr, ak, ae⟩
 ·
  have au : (timB now) = true := by first | (simpa only [Bool.not_eq_true', Bool.not_eq_false'] using ab) | simpa using ab
  refine WLq 5 [(6, .bool ((Int.tmod now 4) != 0)), (18, .bool ((Int.tmod now 4) != 0)), (17, .bool ((Int.tmod now 4) != 0)), (16, .int .i64 (Int.tmod now 4)), (15, .int .i64 now)] (WLd rfl (QXn (hK2 _ _ ?_)))
  refine WCa 6 ((Int.tmod now 4) != 0) rfl (fun aa => ?_) (fun aa => ?_)
  ·
   have aB : (Int.tmod now 4) ≠ 0 := by simpa using aa
   refine WCt rfl ?_
   refine WC.skip ?_
   refine QXb ?_
   refine (hret _ _ _ rfl ?_).2
   clear hN hret hret' hK2
   have hz_ : tickV b o vs now = [] := if_neg (fun q_ => by have z_ := aa; rw [q_.2] at z_; simp at z_)
   obtain ⟨F15, al, af⟩ := sp_close hC5 0 0 1 2 rfl rfl rfl rfl ho7 ho8 hf9 (show _ = V ++ tickV b o vs now from by rw [hz_, List.append_nil]; exact hV_) (by decide) (by decide) (by decide)
   exact ⟨F15, rfl, hC5.fr, al, af⟩
  ·
   have aB : (Int.tmod now 4) = 0 := by simpa using aa
   refine WCf rfl ?_
   refine WCs (fun aC ag => ?_)
   refine WCg (WLq 3 [(22, .pointer (some ⟨p, 1, none⟩)), (21, .pointer (some ⟨p, 0, none⟩)), (20, .pointer (some ⟨p, 0, none⟩))] ?_)
   refine WLo 4 (.pointer (some ⟨p, 1, none⟩)) (.bool o) 23 (run_ld (hC5.get 0 rfl) rfl) ?_
   refine WLq 1 [(19, .bool o)] (WLd rfl (QXn (ag _ _ ?_)))
   refine WCa 19 (o) rfl (fun ah => ?_) (fun ah => ?_)
   ·
    refine WCt rfl ?_
    refine WCg (WLq 1 [(24, .pointer (some ⟨p, 0, none⟩))] ?_)
    obtain ⟨F21, am, ac⟩ := sp_close hC5 0 0 1 2 rfl rfl rfl rfl ho7 ho8 hf9 hV_ (by decide) (by decide) (by decide)
    refine WLc rfl rfl rfl rfl rfl (by kernel_rfl) (routesG_ct F21 p b o vs V w4 am hvk hml) ?_
    rintro _ aD ⟨F24, rfl, av, an, ai⟩
    have ao := hC5.fr.trans av ac
    have aw := Cx.done ao
    have ax := fun x_ hx_ => (ai x_ hx_).elim (ac x_) (fun h_ => Or.inr (Nat.le_trans hC5.fr.size h_))
    refine ⟨_, rfl, ?_⟩
    refine WLd rfl ?_
    refine QXb ?_
    refine (hret _ _ _ rfl ?_).2
    clear hN hret hret' ag hK2
    have hz_ : tickV b o vs now = [(12, b :: vs)] := by unfold tickV; rw [if_pos ⟨au, by have z_ := aa; simpa using z_⟩]; simp [ah]
    exact ⟨F24, rfl, aw.fr, by rw [hz_]; exact an, ax⟩
   ·
    refine WCf rfl ?_
    refine WCg (WLq 1 [(4, .pointer (some ⟨p, 0, none⟩))] ?_)
    obtain ⟨F32, ap, ad⟩ := sp_close hC5 0 0 1 2 rfl rfl rfl rfl ho7 ho8 hf9 hV_ (by decide) (by decide) (by decide)
    refine WLc rfl rfl rfl rfl rfl (by kernel_rfl) (sayG_n F32 p b o vs V 10 none 0 0 [] rfl w4 ap (Rd.nil _ _ _ _) (by decide) hml) ?_
    rintro _ aE ⟨F35, rfl, ay, aq, aj⟩
    have ar := hC5.fr.trans ay ad
    have az := Cx.done ar
    have aA := fun x_ hx_ => (aj x_ hx_).elim (ad x_) (fun h_ => Or.inr (Nat.le_trans hC5.fr.size h_))
    refine ⟨_, rfl, ?_⟩
    refine WLd rfl ?_
    refine QXb ?_
    refine (hret _ _ _ rfl ?_).2
    clear hN hret hret' ag hK2
    have hz_ : tickV b o vs now = [(10, [b])] := by unfold tickV; rw [if_pos ⟨au, by have z_ := aa; simpa using z_⟩]; simp [ah]
    exact ⟨F35, rfl, az.fr, by rw [hz_]; exact aq, aA⟩

theorem one_is {N : List Int} {b e : Int} (h : N.length = 1) (he : N[0]? = some e) (hb : e = b) : N = [b] := by
  match N, h with
  | [x], _ => simp at he; rw [he, hb]
set_option maxHeartbeats 1000000 in
theorem RecvG_ct (F : List Nat) (p : Nat) (b : Int) (o : Bool) (vs : List Int) (V : List (Int × List Int)) (kd : Int) (An : Option Addr) (cn : Nat) (N : List Int) (Ad : Option Addr) (dn dc : Nat)  (w : World) (ht : spAt 78 w F p b o vs V) (hvk : vs.length ≤ 39 ∧ ∀ x ∈ vs, 0 ≤ x ∧ x ≤ 4294967295) (hml : V.length ≤ 1099511627776) (hrn : Rd w 1 (Go.Tw.encI .i64) An N) (hnF : N ≠ [] → ∀ b2 off, An = some ⟨b2, off, none⟩ → b2 ∉ F) : Calls Try.prog 14 #[.pointer (some ⟨p, 0, none⟩), .agg #[.int .i64 kd, .slice An N.length cn, .slice Ad dn dc]] w fun e w' => ∃ F', e = .returned (.tuple #[]) ∧ Fr w w' F ∧ spAt 78 w' F' p b (recvO b o kd N) vs (V ++ recvM b kd vs N) ∧ ∀ x ∈ F', x ∈ F ∨ w.heap.size ≤ x := by
 refine enterD (n := 37) Try.func14 rfl rfl (Nat.le_of_ble_eq_true rfl) ?_
 intro Q0 hN hret hret'
 have ht0 := ht
 obtain ⟨Av, cv, Am, cm, ms, R, hp_, hv_, hs_, hg_, hV_, rfl, pA_, pB_, pR_, dAB_, dAR_, dBR_⟩ := ht
 have hC := Cx.open3 hp_ (own_lt hv_) (own_lt hs_) hg_.2 pA_ pB_ pR_ dAB_ dAR_ dBR_
 have hcm_ := own_le hs_
 have hcx_ : ms.length = V.length := by rw [← hV_, List.length_map]
 have hvl_ := own_max hv_
 refine WCs (fun K1 hK2 => ?_)
 refine WCg ?_
 refine WL.newM hC (fun b => .pointer (some ⟨b, 0, none⟩)) (.cells #[.int .i64 kd, .slice An N.length cn, .slice Ad dn dc] 40) 3 (fun _ => by kernel_rfl) (fun g3 w4 hb7 hF5 hC6 => ?_)
 have hf8 := (Fr.refl w []).trans hF5 (by simp)
 have ho9 := own_fr hv_ hF5 (by simp)
 have aO := own_fr hs_ hF5 (by simp)
 have aP := mgsIn.fr hg_ hF5 (by simp)
 refine WLd rfl (QXn (hK2 _ _ ?_))
 refine WCs (fun a6 ag => ?_)
 refine WCs (fun a7 ad => ?_)
 refine WC.drawC hC6 [] (by kernel_rfl) (fun a8 ao ab aa => ?_)
 have a0 := hf8.trans ao (by simp)
 have aj := own_fr ho9 ao (by simp)
 have ak := own_fr aO ao (by simp)
 have al := mgsIn.fr aP ao (by simp)
 refine WDq (NPt (NPt hN)) 0 4 (.pointer (some ⟨p, 0, none⟩)) aa ?_
 refine WDq (NPt (NPt hN)) 1 5 (.bool false) aa ?_
 refine WDq (NPt (NPt hN)) 2 6 (.bool false) aa ?_
 refine WDq (NPt (NPt hN)) 3 7 (.pointer (some ⟨g3, 1, none⟩)) aa ?_
 refine WDm (NPt (NPt hN)) 4 37 (.pointer (some ⟨g3, 1, none⟩)) (.slice An N.length cn) 8 (fun _ hS_ => run_ld (Fr.has hS_ (ab.get 1 rfl) (by simp)) rfl) aa ?_
 refine WDq (NPt (NPt hN)) 5 9 (.int .i64 (N.length : Int)) aa ?_
 refine WDq (NPt (NPt hN)) 6 10 (.bool ((N.length : Int) != 1)) aa ?_
 refine WDq (NPt (NPt hN)) 7 11 (.bool ((N.length : Int) != 1)) aa ?_
 refine WDq (NPt (NPt hN)) 8 12 (.bool ((N.length : Int) != 1)) aa ?_
 refine WDa 12 ((N.length : Int) != 1) rfl (fun ae => ?_) (fun ae => ?_)
 ·
  have a1 : (N.length : Int) ≠ 1 := by simpa using ae
  refine WDq (NPt (NPt hN)) 9 13 (undef) aa ?_
  refine WDq (NPt (NPt hN)) 10 14 (undef) aa ?_
  refine WDq (NPt (NPt hN)) 11 15 (undef) aa ?_
  refine WDq (NPt (NPt hN)) 12 16 (undef) aa ?_
  refine WDq (NPt (NPt hN)) 13 17 (undef) aa ?_
  refine WDq (NPt (NPt hN)) 14 18 (undef) aa ?_
  refine WDq (NPt (NPt hN)) 15 19 (undef) aa ?_
  refine WDq (NPt (NPt hN)) 16 20 (undef) aa ?_
  refine WDq (NPt (NPt hN)) 17 21 (undef) aa ?_
  refine WDq (NPt (NPt hN)) 18 22 (.bool true) aa ?_
  refine WD.done (by kernel_rfl) ?_
  refine QXn (ad _ _ ?_)
  refine WCt rfl ?_
  refine WC.ret ?_
  refine QXr ?_
  refine (hret _ _ _ rfl ?_).1
  clear hN hret hret' ad ag hK2
  have hnb_ : N ≠ [b] := fun q_ => by have z_ := ae; rw [q_] at z_; simp at z_
  have hz1_ : recvO b o kd N = o := if_neg hnb_
  have hz_ : recvM b kd vs N = [] := if_neg (fun q_ => hnb_ q_.1)
  obtain ⟨F25, aD, ar⟩ := sp_close ab 0 0 1 2 rfl rfl rfl rfl aj ak al (show _ = V ++ recvM b kd vs N from by rw [hz_, List.append_nil]; exact hV_) (by decide) (by decide) (by decide)
  exact ⟨F25, rfl, ab.fr, by rw [hz1_]; exact aD, ar⟩
 ·
  have a1 : (N.length : Int) = 1 := by simpa using ae
  refine WDq (NPt (NPt hN)) 9 13 (.pointer (some ⟨g3, 1, none⟩)) aa ?_
  refine WDq (NPt (NPt hN)) 13 17 (.pointer (some ⟨p, 0, none⟩)) aa ?_
  refine WDq (NPt (NPt hN)) 14 18 (.pointer (some ⟨p, 0, none⟩)) aa ?_
  refine WDq (NPt (NPt hN)) 15 19 (.pointer (some ⟨p, 0, none⟩)) aa ?_
  refine WDm (NPt (NPt hN)) 10 37 (.pointer (some ⟨g3, 1, none⟩)) (.slice An N.length cn) 14 (fun _ hS_ => run_ld (Fr.has hS_ (ab.get 1 rfl) (by simp)) rfl) aa ?_
  obtain ⟨aC, ah⟩ := get_some (xs := N) (i := 0) (by omega)
  obtain ⟨b30, o32, aE, aQ⟩ := hrn.at_ _ _ ah
  refine WDi (NPt (NPt hN)) 11 An N.length cn 15 .i64 0 b30 o32 0 1 (by kernel_rfl) (by kernel_rfl) aE (by omega) (by omega) (o32 + 0) (by first | (simp; done) | omega) aa ?_
  refine WDm (NPt (NPt hN)) 12 3 (.pointer (some ⟨b30, o32 + 0, none⟩)) (.int .i64 aC) 16 (fun _ hS_ => run_load1 rfl (by simpa [Nat.add_assoc] using Fr.cell hS_ (ab.fr.cell (aQ 0 _ rfl) (by have z_ := hnF (ne_of_get ah) _ _ aE; simpa using z_)) (by simp))) aa ?_
  refine WDm (NPt (NPt hN)) 16 3 (.pointer (some ⟨p, 0, none⟩)) (.int .i64 b) 20 (fun _ hS_ => run_ld (Fr.has hS_ (ab.get 0 rfl) (by simp)) rfl) aa ?_
  refine WDq (NPt (NPt hN)) 17 21 (.bool (aC != b)) aa ?_
  refine WDq (NPt (NPt hN)) 18 22 (.bool (aC != b)) aa ?_
  refine WD.done (by kernel_rfl) ?_
  refine QXn (ad _ _ ?_)
  refine WCa 22 (aC != b) rfl (fun af => ?_) (fun af => ?_)
  ·
   have a2 : aC ≠ b := by simpa using af
   refine WCt rfl ?_
   refine WC.ret ?_
   refine QXr ?_
   refine (hret _ _ _ rfl ?_).1
   clear hN hret hret' ad ag hK2
   have hnb_ : N ≠ [b] := fun q_ => by have z_ := af; have y_ := ah; rw [q_] at y_; simp at y_; rw [y_] at z_; simp at z_
   have hz1_ : recvO b o kd N = o := if_neg hnb_
   have hz_ : recvM b kd vs N = [] := if_neg (fun q_ => hnb_ q_.1)
   obtain ⟨F35, aF, au⟩ := sp_close ab 0 0 1 2 rfl rfl rfl rfl aj ak al (show _ = V ++ recvM b kd vs N from by rw [hz_, List.append_nil]; exact hV_) (by decide) (by decide) (by decide)
   exact ⟨F35, rfl, ab.fr, by rw [hz1_]; exact aF, au⟩
  ·
   have a2 : aC = b := by simpa using af
   refine WCf rfl (WC.skip (QXn (ag _ _ ?_)))
   refine WCs (fun a9 ap => ?_)
   refine WCg (WLq 1 [(23, .pointer (some ⟨g3, 0, none⟩))] ?_)
   refine WLo 3 (.pointer (some ⟨g3, 0, none⟩)) (.int .i64 kd) 24 (run_ld (ab.get 1 rfl) rfl) ?_
   refine WLd rfl (QXn (ap _ _ ?_))
   refine WC.block ?_
   refine WCs (fun ba aq => ?_)
   refine WCg (WLq 2 [(25, .bool (kd == 11)), (26, .bool (kd == 11))] (WLd rfl (QXn (aq _ _ ?_))))
   refine WCa 25 (kd == 11) rfl (fun ai => ?_) (fun ai => ?_)
   ·
    have a3 : kd = 11 := by simpa using ai
    refine WCt rfl ?_
    refine WCs (fun bb aG => ?_)
    refine WCg (WLq 3 [(29, .pointer (some ⟨p, 1, none⟩)), (28, .pointer (some ⟨p, 0, none⟩)), (27, .pointer (some ⟨p, 0, none⟩))] ?_)
    refine WLs (c' := #[.int .i64 b, .bool true, .slice Av vs.length cv, .slice Am ms.length cm]) ab 0 4 p 1 (.bool true) (by kernel_rfl) rfl (by kernel_rfl) (fun a4 av aw => ?_)
    have aR := own_fr aj av (ab.apartM 0 0 rfl rfl)
    have aS := own_fr ak av (ab.apartM 1 0 rfl rfl)
    have aT := mgsIn.fr al av (ab.apartM 2 0 rfl rfl)
    refine WLd rfl (QXn (aG _ _ ?_))
    refine WCg (WLq 1 [(30, .pointer (some ⟨p, 0, none⟩))] ?_)
    obtain ⟨F52, aH, am⟩ := sp_close aw 0 0 1 2 rfl rfl rfl rfl aR aS aT hV_ (by decide) (by decide) (by decide)
    refine WLc rfl rfl rfl rfl rfl (by kernel_rfl) (routesG_ct F52 p b true vs V a4 aH hvk hml) ?_
    rintro _ bc ⟨F55, rfl, aU, aI, ax⟩
    have aJ := aw.fr.trans aU am
    have aV := Cx.done aJ
    have aW := fun x_ hx_ => (ax x_ hx_).elim (am x_) (fun h_ => Or.inr (Nat.le_trans aw.fr.size h_))
    refine ⟨_, rfl, ?_⟩
    refine WLd rfl ?_
    refine QXb ?_
    refine (hret _ _ _ rfl ?_).2
    clear hN hret hret' aG aq ap ad ag hK2
    have hnb_ : N = [b] := one_is (by have z_ := ae; simp at z_; omega) ah (by have z_ := af; simpa using z_)
    have aK : kd = 11 := by have z_ := ai; simpa using z_
    have hz_ : recvM b kd vs N = [(12, b :: vs)] := if_pos ⟨hnb_, aK⟩
    have hz1_ : recvO b o kd N = true := by unfold recvO; rw [if_pos hnb_, if_pos aK]
    exact ⟨F55, rfl, aV.fr, by rw [hz_, hz1_]; exact aI, aW⟩
   ·
    have a3 : ¬ (kd = 11) := by simpa using ai
    refine WCf rfl ?_
    refine WCs (fun bd ay => ?_)
    refine WCg (WLq 2 [(32, .bool (kd == 14)), (33, .bool (kd == 14))] (WLd rfl (QXn (ay _ _ ?_))))
    refine WCa 32 (kd == 14) rfl (fun an => ?_) (fun an => ?_)
    ·
     have a5 : kd = 14 := by simpa using an
     refine WCt rfl ?_
     refine WCg (WLq 3 [(36, .pointer (some ⟨p, 1, none⟩)), (35, .pointer (some ⟨p, 0, none⟩)), (34, .pointer (some ⟨p, 0, none⟩))] ?_)
     refine WLs (c' := #[.int .i64 b, .bool false, .slice Av vs.length cv, .slice Am ms.length cm]) ab 0 4 p 1 (.bool false) (by kernel_rfl) rfl (by kernel_rfl) (fun be az aL => ?_)
     have aX := own_fr aj az (ab.apartM 0 0 rfl rfl)
     have aY := own_fr ak az (ab.apartM 1 0 rfl rfl)
     have aZ := mgsIn.fr al az (ab.apartM 2 0 rfl rfl)
     refine WLd rfl ?_
     refine QXb ?_
     refine (hret _ _ _ rfl ?_).2
     clear hN hret hret' ay aq ap ad ag hK2
     have hnb_ : N = [b] := one_is (by have z_ := ae; simp at z_; omega) ah (by have z_ := af; simpa using z_)
     have ac : kd ≠ 11 := fun q_ => by have z_ := ai; rw [q_] at z_; simp at z_
     have hz_ : recvM b kd vs N = [] := if_neg (fun q_ => ac q_.2)
     have hz1_ : recvO b o kd N = false := by unfold recvO; rw [if_pos hnb_, if_neg ac, if_pos (by have z_ := an; simpa using z_)]
     obtain ⟨F73, aM, aA⟩ := sp_close aL 0 0 1 2 rfl rfl rfl rfl aX aY aZ (show _ = V ++ recvM b kd vs N from by rw [hz_, List.append_nil]; exact hV_) (by decide) (by decide) (by decide)
     exact ⟨F73, rfl, aL.fr, by rw [hz1_]; exact aM, aA⟩
    ·
     have a5 : ¬ (kd = 14) := by simpa using an
     refine WCf rfl (WC.skip ?_)
     refine QXb ?_
     refine (hret _ _ _ rfl ?_).2
     clear hN hret hret' ay aq ap ad ag hK2
     have hnb_ : N = [b] := one_is (by have z_ := ae; simp at z_; omega) ah (by have z_ := af; simpa using z_)
     have ac : kd ≠ 11 := fun q_ => by have z_ := ai; rw [q_] at z_; simp at z_
     have hz_ : recvM b kd vs N = [] := if_neg (fun q_ => ac q_.2)
     have hz1_ : recvO b o kd N = o := by unfold recvO; rw [if_pos hnb_, if_neg ac, if_neg (fun q_ => by have z_ := an; rw [q_] at z_; simp at z_)]
     obtain ⟨F76, aN, aB⟩ := sp_close ab 0 0 1 2 rfl rfl rfl rfl aj ak al (show _ = V ++ recvM b kd vs N from by rw [hz_, List.append_nil]; exact hV_) (by decide) (by decide) (by decide)
     exact ⟨F76, rfl, ab.fr, by rw [hz1_]; exact aN, aB⟩

set_option maxHeartbeats 1000000 in
theorem AnnG_ct (F : List Nat) (p : Nat) (b : Int) (o : Bool) (vs : List Int) (V : List (Int × List Int)) (A : Option Addr) (c : Nat) (xs : List Int)  (w : World) (ht : spAt 78 w F p b o vs V) (hvk : vs.length ≤ 39 ∧ ∀ x ∈ vs, 0 ≤ x ∧ x ≤ 4294967295) (hml : V.length ≤ 1099511627776) (hr : Rd w 1 (Go.Tw.encI .u32) A xs) (hlen : xs.length ≤ 1099511627776) (aE : ∀ x ∈ xs, 0 ≤ x ∧ x ≤ 4294967295) : Calls Try.prog 12 #[.pointer (some ⟨p, 0, none⟩), .slice A xs.length c] w fun e w' => ∃ F', e = .returned (.tuple #[]) ∧ Fr w w' F ∧ spAt 78 w' F' p b o (annV xs) (V ++ annM b o vs xs) ∧ ∀ x ∈ F', x ∈ F ∨ w.heap.size ≤ x := by
 refine enterD (n := 34) Try.func12 rfl rfl (Nat.le_of_ble_eq_true rfl) ?_
 intro Q0 hN hret hret'
 have hann_ := annV_ok aE
 have ht0 := ht
 obtain ⟨Av, cv, Am, cm, ms, R, hp_, hv_, hs_, hg_, hV_, rfl, pA_, pB_, pR_, dAB_, dAR_, dBR_⟩ := ht
 have hC := Cx.open3 hp_ (own_lt hv_) (own_lt hs_) hg_.2 pA_ pB_ pR_ dAB_ dAR_ dBR_
 have hcm_ := own_le hs_
 have hcx_ : ms.length = V.length := by rw [← hV_, List.length_map]
 have hvl_ := own_max hv_
 refine WCs (fun K1 hK2 => ?_)
 refine WCs (fun K3 hK4 => ?_)
 refine WCg (WLq 2 [(6, .bool false), (5, .pointer (some ⟨p, 0, none⟩))] (WLd rfl (QXn (hK4 _ _ ?_))))
 refine WCf rfl (WC.skip (QXn (hK2 _ _ ?_)))
 refine WCs (fun K5 hK6 => ?_)
 refine WCg (WLq 1 [(7, .slice A xs.length c)] ?_)
 refine WLc rfl rfl rfl rfl rfl (by kernel_rfl) (Values_ct A xs.length c w) ?_
 rintro _ w8 ⟨g7, rfl, hF9, aT, aU⟩
 have aF := hC.callB hF9 aT aU
 refine ⟨_, rfl, ?_⟩
 have aG := (Fr.refl w []).trans hF9 (by simp)
 have aV := own_fr hv_ hF9 (by simp)
 have aW := own_fr hs_ hF9 (by simp)
 have aX := mgsIn.fr hg_ hF9 (by simp)
 refine WLc rfl rfl rfl rfl rfl (by kernel_rfl) (SortedU_ct A c xs g7 w8 (aF.get 1 rfl) (Rd.fr hr aG) hlen) ?_
 rintro _ bg ⟨v_, rfl, ae, ai⟩
 have aj := aF.callN ae (own_ge ai) (own_lt ai)
 obtain ⟨ab, aa, rfl, bf⟩ := own_form ai
 have aH := own_base (b' := 0) ai (fun _ _ => Nat.zero_le _)
 refine ⟨_, rfl, ?_⟩
 have bh := aG.trans ae (by simp)
 have aY := own_fr aV ae (by simp)
 have aZ := own_fr aW ae (by simp)
 have a0 := mgsIn.fr aX ae (by simp)
 refine WLc rfl rfl rfl rfl rfl (by kernel_rfl) (DelV_n ab aa xs.length (sortU xs) (own_count (Go.Tw.encI_len .u32) (by decide) aH) bg aH hlen (fun x_ h_ => aE x_ (sortU_mem.1 h_))) ?_
 rintro _ bi ⟨rfl, ak, al⟩
 have am := aj.callF 3 rfl ak (fun x_ h_ => .inl (blk_in3 h_)) (own_lt al)
 have bj := own_le al
 refine ⟨_, rfl, ?_⟩
 have a1 := own_fr aY ak (aj.disj 0 3 rfl rfl (by decide))
 have a2 := own_fr aZ ak (aj.disj 1 3 rfl rfl (by decide))
 have a3 := mgsIn.fr a0 ak (aj.disj 2 3 rfl rfl (by decide))
 refine WLq 1 [(4, .slice ab ((outV (sortU xs)).length) aa)] (WLd rfl (QXn (hK6 _ _ ?_)))
 refine WCs (fun bo an => ?_)
 refine WCg (WLq 1 [(11, .slice ab ((outV (sortU xs)).length) aa)] ?_)
 have hfl_ : (outV (sortU xs)).length ≤ 1099511627776 := Nat.le_trans (List.length_filter_le _ _) (by rw [sortU_len]; exact hlen)
 refine WLc rfl rfl rfl rfl rfl (by kernel_rfl) (CptU_n ab aa ((outV (sortU xs)).length) (outV (sortU xs)) (own_count (Go.Tw.encI_len .u32) (by decide) al) bi al hfl_) ?_
 rintro _ bk ⟨rfl, ao, ap⟩
 have aI := am.callF 3 rfl ao (fun x_ h_ => .inl (blk_in3 h_)) (own_lt ap)
 have bl := own_le ap
 refine ⟨_, rfl, ?_⟩
 have aJ := own_fr a1 ao (am.disj 0 3 rfl rfl (by decide))
 have a4 := own_fr a2 ao (am.disj 1 3 rfl rfl (by decide))
 have a5 := mgsIn.fr a3 ao (am.disj 2 3 rfl rfl (by decide))
 refine WLq 1 [(4, .slice ab ((cpt (outV (sortU xs))).length) aa)] (WLd rfl (QXn (an _ _ ?_)))
 refine WCs (fun bp aq => ?_)
 refine WCg (WLq 3 [(15, .int .i64 ((cpt (outV (sortU xs))).length : Int)), (14, .slice ab ((cpt (outV (sortU xs))).length) aa), (13, .slice ab ((cpt (outV (sortU xs))).length) aa)] ?_)
 have a6 : ∀ w_, Sem.run Try.prog (Builtin.min_ #[3, 3] 3 #[.int .i64 ((cpt (outV (sortU xs))).length : Int), .int .i64 39]) w_ = .ok (.int .i64 (min ((cpt (outV (sortU xs))).length : Int) (39 : Int))) w_ := fun w_ => run_minI
 refine WL.sem (Builtin.min_ #[3, 3] 3 #[.int .i64 ((cpt (outV (sortU xs))).length : Int), .int .i64 39]) 16 (.int .i64 (min ((cpt (outV (sortU xs))).length : Int) (39 : Int))) (by kernel_rfl) (a6 _) ?_
 have hal_ := annV_len xs
 refine WLt (show (.int .i64 (min ((cpt (outV (sortU xs))).length : Int) (39 : Int)) : Value) = .int .i64 ((annV xs).length : Int) from by congr 1; rw [hal_]; omega) ?_
 have hle_ := own_le ap
 have a7 : ((annV xs).length) ≤ aa := by omega
 refine WL.slc 33 44 1 ab ab ((cpt (outV (sortU xs))).length) aa 0 ((annV xs).length) ((annV xs).length) aa none (some (.int .i64 ((annV xs).length : Int))) 17 (by kernel_rfl) (by kernel_rfl) bnd.no (bnd.yes (by omega)) (by omega) a7 (slcAt_pre _ _ _) (by first | rfl | omega) (by first | rfl | omega) ?_
 have a8 := own_takeE (m := ((annV xs).length)) (Go.Tw.encI_len _) ap (by omega)
 refine WLq 1 [(4, .slice ab ((annV xs).length) aa)] (WLd rfl (QXn (aq _ _ ?_)))
 refine WCs (fun bq ar => ?_)
 refine WCs (fun br au => ?_)
 refine WCg (WLq 4 [(21, .pointer (some ⟨p, 2, none⟩)), (20, .pointer (some ⟨p, 0, none⟩)), (19, .pointer (some ⟨p, 0, none⟩)), (18, .slice ab ((annV xs).length) aa)] ?_)
 refine WLo 33 (.pointer (some ⟨p, 2, none⟩)) (.slice Av vs.length cv) 22 (run_ld (aI.get 0 rfl) rfl) ?_
 have av := a8
 rw [tk_ann] at av
 have a9 := aI.callF 3 rfl (Fr.refl _ _) (fun x_ h_ => .inl (blk_in3 h_)) (own_lt av)
 refine WLc rfl rfl rfl rfl rfl (by kernel_rfl) (EqU_n ab Av ((annV xs).length) aa vs.length cv (annV xs) vs bk (own_rd av (Go.Tw.encI_len _) (by decide)) rfl (own_rd aJ (Go.Tw.encI_len _) (by decide)) rfl (by omega) (by omega)) ?_
 rintro _ bs ⟨rfl, af⟩
 refine ⟨_, rfl, ?_⟩
 have ac := a9.call af
 have ba := own_fr aJ af (by simp)
 have aK := own_fr a4 af (by simp)
 have aL := mgsIn.fr a5 af (by simp)
 have bb := own_fr av af (by simp)
 refine WLd rfl (QXn (au _ _ ?_))
 refine WCa 23 (decide (annV xs = vs)) rfl (fun ag => ?_) (fun ag => ?_)
 ·
  have bm : annV xs = vs := of_decide_eq_true ag
  refine WCt rfl ?_
  refine WC.ret ?_
  refine QXr ?_
  refine (hret _ _ _ rfl ?_).1
  clear hN hret hret' au ar aq an hK6 hK4 hK2
  have he_ : annV xs = vs := of_decide_eq_true ag
  have hz_ : annM b o vs xs = [] := if_neg (fun q_ => q_.1 he_)
  obtain ⟨F68, aM, ay⟩ := sp_close ac 0 0 1 2 rfl rfl rfl rfl ba aK aL (show _ = V ++ annM b o vs xs from by rw [hz_, List.append_nil]; exact hV_) (by decide) (by decide) (by decide)
  exact ⟨F68, rfl, ac.fr, by rw [he_]; exact aM, ay⟩
 ·
  have bm : ¬ (annV xs = vs) := of_decide_eq_false ag
  refine WCf rfl (WC.skip (QXn (ar _ _ ?_)))
  refine WCs (fun bt az => ?_)
  refine WCg (WLq 4 [(27, .pointer (some ⟨p, 2, none⟩)), (26, .pointer (some ⟨p, 0, none⟩)), (25, .slice ab ((annV xs).length) aa), (24, .pointer (some ⟨p, 0, none⟩))] ?_)
  refine WLs (c' := #[.int .i64 b, .bool o, .slice ab ((annV xs).length) aa, .slice Am ms.length cm]) ac 0 33 p 2 (.slice ab ((annV xs).length) aa) (by kernel_rfl) rfl (by kernel_rfl) (fun bn aA ad => ?_)
  have aN := own_fr aK aA (ac.apartM 1 0 rfl rfl)
  have aO := mgsIn.fr aL aA (ac.apartM 2 0 rfl rfl)
  have aP := own_fr bb aA (ac.apartM 3 0 rfl rfl)
  refine WLd rfl (QXn (az _ _ ?_))
  refine WCs (fun bu aB => ?_)
  refine WCg (WLq 3 [(30, .pointer (some ⟨p, 1, none⟩)), (29, .pointer (some ⟨p, 0, none⟩)), (28, .pointer (some ⟨p, 0, none⟩))] ?_)
  refine WLo 4 (.pointer (some ⟨p, 1, none⟩)) (.bool o) 31 (run_ld (ad.get 0 rfl) rfl) ?_
  refine WLd rfl (QXn (aB _ _ ?_))
  refine WCa 31 (o) rfl (fun aw => ?_) (fun aw => ?_)
  ·
   refine WCt rfl ?_
   refine WCg (WLq 1 [(32, .pointer (some ⟨p, 0, none⟩))] ?_)
   obtain ⟨F84, aQ, ah⟩ := sp_close ad 0 3 1 2 rfl rfl rfl rfl aP aN aO hV_ (by decide) (by decide) (by decide)
   refine WLc rfl rfl rfl rfl rfl (by kernel_rfl) (routesG_ct F84 p b o (annV xs) V bn aQ hann_ hml) ?_
   rintro _ bv ⟨F87, rfl, bc, ax, aC⟩
   have aR := ad.fr.trans bc ah
   have bd := Cx.done aR
   have be := fun x_ hx_ => (aC x_ hx_).elim (ah x_) (fun h_ => Or.inr (Nat.le_trans ad.fr.size h_))
   refine ⟨_, rfl, ?_⟩
   refine WLd rfl ?_
   refine (hret _ _ _ rfl ?_).2
   clear hN hret hret' aB az au ar aq an hK6 hK4 hK2
   have hz_ : annM b o vs xs = [(12, b :: annV xs)] := if_pos ⟨of_decide_eq_false ag, aw⟩
   exact ⟨F87, rfl, bd.fr, by rw [hz_]; first | exact ax | (rw [aw]; exact ax), be⟩
  ·
   refine WCf rfl (WC.skip ?_)
   refine (hret _ _ _ rfl ?_).2
   clear hN hret hret' aB az au ar aq an hK6 hK4 hK2
   have hz_ : annM b o vs xs = [] := if_neg (fun q_ => by rw [aw] at q_; cases q_.2)
   obtain ⟨F95, aS, aD⟩ := sp_close ad 0 3 1 2 rfl rfl rfl rfl aP aN aO (show _ = V ++ annM b o vs xs from by rw [hz_, List.append_nil]; exact hV_) (by decide) (by decide) (by decide)
   exact ⟨F95, rfl, ad.fr, aS, aD⟩

theorem AnnG_n (F : List Nat) (p : Nat) (b : Int) (o : Bool) (vs : List Int) (V : List (Int × List Int)) (A : Option Addr) (n c : Nat) (xs : List Int) (hn : xs.length = n) (w : World) (ht : spAt 78 w F p b o vs V) (hvk : vs.length ≤ 39 ∧ ∀ x ∈ vs, 0 ≤ x ∧ x ≤ 4294967295) (hml : V.length ≤ 1099511627776) (hr : Rd w 1 (Go.Tw.encI .u32) A xs) (hlen : n ≤ 1099511627776) (hx32 : ∀ x ∈ xs, 0 ≤ x ∧ x ≤ 4294967295) : Calls Try.prog 12 #[.pointer (some ⟨p, 0, none⟩), .slice A n c] w fun e w' => ∃ F', e = .returned (.tuple #[]) ∧ Fr w w' F ∧ spAt 78 w' F' p b o (annV xs) (V ++ annM b o vs xs) ∧ ∀ x ∈ F', x ∈ F ∨ w.heap.size ≤ x := by subst hn; exact AnnG_ct F p b o vs V A c xs w ht hvk hml hr hlen hx32
theorem OutG78_ct (F : List Nat) (p : Nat) (b : Int) (o : Bool) (vs : List Int) (V : List (Int × List Int))  (w : World) (ht : spAt 78 w F p b o vs V) (hml : V.length ≤ 1099511627776) : Calls Try.prog 20 #[.pointer (some ⟨p, 0, none⟩)] w fun e w' => ∃ F' R2 A n c, e = .returned (.slice A n c) ∧ Fr w w' F ∧ spAt 78 w' F' p b o vs [] ∧ outAt w' R2 A n c V ∧ (∀ x ∈ F', x ∈ F) ∧ (∀ x ∈ R2, x ∈ F) ∧ ∀ x ∈ F', x ∉ R2 := by
 refine enterD (n := 14) Try.func20 rfl rfl (Nat.le_of_ble_eq_true rfl) ?_
 intro Q0 hN hret hret'
 have ht0 := ht
 obtain ⟨Av, cv, Am, cm, ms, R, hp_, hv_, hs_, hg_, hV_, rfl, pA_, pB_, pR_, dAB_, dAR_, dBR_⟩ := ht
 have hC := Cx.open3 hp_ (own_lt hv_) (own_lt hs_) hg_.2 pA_ pB_ pR_ dAB_ dAR_ dBR_
 have hcm_ := own_le hs_
 have hcx_ : ms.length = V.length := by rw [← hV_, List.length_map]
 have hvl_ := own_max hv_
 refine WCs (fun K1 hK2 => ?_)
 refine WCg (WLq 1 [(2, .slice none 0 0)] (WLd rfl (QXn (hK2 _ _ ?_))))
 refine WCs (fun K3 hK4 => ?_)
 refine WCs (fun K5 hK6 => ?_)
 refine WCg (WLq 2 [(5, .bool false), (4, .pointer (some ⟨p, 0, none⟩))] (WLd rfl (QXn (hK6 _ _ ?_))))
 refine WCf rfl (WC.skip (QXn (hK4 _ _ ?_)))
 refine WCs (fun K7 hK8 => ?_)
 refine WCg (WLq 3 [(8, .pointer (some ⟨p, 3, none⟩)), (7, .pointer (some ⟨p, 0, none⟩)), (6, .pointer (some ⟨p, 0, none⟩))] ?_)
 refine WLo 34 (.pointer (some ⟨p, 3, none⟩)) (.slice Am ms.length cm) 9 (run_ld (hC.get 0 rfl) rfl) ?_
 refine WLq 1 [(3, .slice Am ms.length cm)] (WLd rfl (QXn (hK8 _ _ ?_)))
 refine WCs (fun K9 ab => ?_)
 refine WCg (WLq 3 [(12, .pointer (some ⟨p, 3, none⟩)), (11, .pointer (some ⟨p, 0, none⟩)), (10, .pointer (some ⟨p, 0, none⟩))] ?_)
 refine WLs (c' := #[.int .i64 b, .bool o, .slice Av vs.length cv, .slice none 0 0]) hC 0 34 p 3 (.slice none 0 0) (by kernel_rfl) rfl (by kernel_rfl) (fun ah aa ac => ?_)
 have ae := own_fr hv_ aa (hC.apartM 0 0 rfl rfl)
 have af := own_fr hs_ aa (hC.apartM 1 0 rfl rfl)
 have ag := mgsIn.fr hg_ aa (hC.apartM 2 0 rfl rfl)
 refine WLd rfl (QXn (ab _ _ ?_))
 refine WCs (fun ai ad => ?_)
 refine WCg (WLq 2 [(2, .slice Am ms.length cm), (13, .slice Am ms.length cm)] (WLd rfl (QXn (ad _ _ ?_))))
 refine WC.ret ?_
 refine (hret _ _ _ rfl ?_).1
 clear hN hret hret' ad ab hK8 hK6 hK4 hK2
 obtain ⟨F2_, R2_, h1_, h2_, h3_, h4_, h5_⟩ := sp_out (T := 78) (ac.get 0 rfl) ae af ag hV_ hml pA_ pB_ pR_ dAB_ dAR_
 exact ⟨F2_, R2_, _, _, _, rfl, ac.fr, h1_, h2_, h3_, h4_, h5_⟩

theorem OpenG_ct (F : List Nat) (p : Nat) (b : Int) (o : Bool) (vs : List Int) (V : List (Int × List Int))  (w : World) (ht : spAt 78 w F p b o vs V) : Calls Try.prog 18 #[.pointer (some ⟨p, 0, none⟩)] w fun e w' => e = .returned (.bool o) ∧ Fr w w' [] := by
 refine enterD (n := 11) Try.func18 rfl rfl (Nat.le_of_ble_eq_true rfl) ?_
 intro Q0 hN hret hret'
 have ht0 := ht
 obtain ⟨Av, cv, Am, cm, ms, R, hp_, hv_, hs_, hg_, hV_, rfl, pA_, pB_, pR_, dAB_, dAR_, dBR_⟩ := ht
 have hC := Cx.open3 hp_ (own_lt hv_) (own_lt hs_) hg_.2 pA_ pB_ pR_ dAB_ dAR_ dBR_
 have hcm_ := own_le hs_
 have hcx_ : ms.length = V.length := by rw [← hV_, List.length_map]
 have hvl_ := own_max hv_
 refine WCs (fun K1 hK2 => ?_)
 refine WCg (WLq 1 [(2, .bool false)] (WLd rfl (QXn (hK2 _ _ ?_))))
 refine WCs (fun K3 hK4 => ?_)
 refine WCg (WLq 6 [(8, .pointer (some ⟨p, 1, none⟩)), (7, .pointer (some ⟨p, 0, none⟩)), (6, .pointer (some ⟨p, 0, none⟩)), (5, .bool true), (4, .bool true), (3, .pointer (some ⟨p, 0, none⟩))] ?_)
 refine WLo 4 (.pointer (some ⟨p, 1, none⟩)) (.bool o) 9 (run_ld (hC.get 0 rfl) rfl) ?_
 refine WLq 2 [(2, .bool o), (10, .bool o)] (WLd rfl (QXn (hK4 _ _ ?_)))
 refine WC.ret ?_
 refine (hret _ _ _ rfl ?_).1
 exact ⟨rfl, (Fr.refl w [])⟩

theorem NewSG_ct (node b : Int) (w : World) (hw : isI64 node) : Calls Try.prog 9 #[.int .i64 node, .int .i64 b] w fun e w' => (¬ (muxB node = true ∧ timB b = true) ∧ e = .returned (.tuple #[.pointer none, .iface 30 (.int .i64 12)]) ∧ Fr w w' []) ∨ ((muxB node = true ∧ timB b = true) ∧ ∃ p, e = .returned (.tuple #[.pointer (some ⟨p, 0, none⟩), .nilIface]) ∧ Fr w w' [] ∧ w.heap.size ≤ p ∧ spAt 78 w' [p] p b false [] []) := by
 refine enterD (n := 18) Try.func9 rfl rfl (Nat.le_of_ble_eq_true rfl) ?_
 intro Q0 hN hret hret'
 obtain ⟨hw0_, hw1_⟩ := hw
 have hC := Cx.start w
 refine WCs (fun K1 hK2 => ?_)
 refine WCg (WLq 2 [(5, .nilIface), (4, .pointer none)] (WLd rfl (QXn (hK2 _ _ ?_))))
 refine WCs (fun K3 hK4 => ?_)
 refine WCs (fun K5 hK6 => ?_)
 refine WCg (WLq 1 [(6, .int .i64 node)] ?_)
 refine WLc rfl rfl rfl rfl rfl (by kernel_rfl) (mux_ct node w ⟨by omega, by omega⟩) ?_
 rintro _ w8 ⟨rfl, hF7⟩
 refine ⟨_, rfl, ?_⟩
 have hC9 := hC.call hF7
 refine WLq 2 [(9, .bool (!(muxB node))), (8, .bool (!(muxB node)))] ?_
 refine WLa 9 (!(muxB node)) rfl (fun aa => ?_) (fun aa => ?_)
 ·
  have ae : (muxB node) = false := by first | (simpa only [Bool.not_eq_true', Bool.not_eq_false'] using aa) | simpa using aa
  refine WLq 4 [(13, .bool true), (12, undef), (11, undef), (10, undef)] (WLd rfl (QXn (hK6 _ _ ?_)))
  refine WCt rfl ?_
  refine WCs (fun an af => ?_)
  refine WCg (WLq 3 [(5, .iface 30 (.int .i64 12)), (4, .pointer none), (14, .iface 30 (.int .i64 12))] (WLd rfl (QXn (af _ _ ?_))))
  refine WC.ret ?_
  refine QXr ?_
  refine (hret _ _ _ rfl ?_).1
  exact .inl ⟨(fun q_ => by rw [ae] at q_; cases q_.1), rfl, hC9.fr⟩
 ·
  have ae : (muxB node) = true := by first | (simpa only [Bool.not_eq_true', Bool.not_eq_false'] using aa) | simpa using aa
  refine WLq 1 [(10, .int .i64 b)] ?_
  refine WLc rfl rfl rfl rfl rfl (by kernel_rfl) (goodTime_ct b w8) ?_
  rintro _ ao ⟨rfl, ag⟩
  refine ⟨_, rfl, ?_⟩
  have ad := hC9.call ag
  refine WLq 2 [(13, .bool (!(timB b))), (12, .bool (!(timB b)))] (WLd rfl (QXn (hK6 _ _ ?_)))
  refine WCa 13 (!(timB b)) rfl (fun ab => ?_) (fun ab => ?_)
  ·
   have ah : (timB b) = false := by first | (simpa only [Bool.not_eq_true', Bool.not_eq_false'] using ab) | simpa using ab
   refine WCt rfl ?_
   refine WCs (fun ap ai => ?_)
   refine WCg (WLq 3 [(5, .iface 30 (.int .i64 12)), (4, .pointer none), (14, .iface 30 (.int .i64 12))] (WLd rfl (QXn (ai _ _ ?_))))
   refine WC.ret ?_
   refine QXr ?_
   refine (hret _ _ _ rfl ?_).1
   exact .inl ⟨(fun q_ => by rw [ah] at q_; cases q_.2), rfl, ad.fr⟩
  ·
   have ah : (timB b) = true := by first | (simpa only [Bool.not_eq_true', Bool.not_eq_false'] using ab) | simpa using ab
   refine WCf rfl (WC.skip (QXn (hK4 _ _ ?_)))
   refine WCs (fun aq aj => ?_)
   refine WCg (WLq 2 [(16, .agg #[.int .i64 b, .bool false, .slice none 0 0, .slice none 0 0]), (15, .int .i64 b)] ?_)
   refine WL.newM ad (fun b => .pointer (some ⟨b, 0, none⟩)) (.cells #[.int .i64 b, .bool false, .slice none 0 0, .slice none 0 0] 78) 17 (fun _ => by kernel_rfl) (fun ak ar al am ac => ?_)
   refine WLq 2 [(5, .nilIface), (4, .pointer (some ⟨ak, 0, none⟩))] (WLd rfl (QXn (aj _ _ ?_)))
   refine WC.ret ?_
   refine (hret _ _ _ rfl ?_).1
   exact .inr ⟨⟨ae, ah⟩, _, rfl, ac.fr, (ac.new_ge 0 rfl).resolve_left (by simp), sp_new (ac.get 0 rfl)⟩

end Go.Proofs.Ytmahghppojbeoaa
