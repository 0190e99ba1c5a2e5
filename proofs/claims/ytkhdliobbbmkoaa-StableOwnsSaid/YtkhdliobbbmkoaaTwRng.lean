/- Laws on ranging over a map, on the laws that keys' types keep, and on maps among tracked blocks. Each holds without conditions beyond those that stand in it. -/
import Derived.Test.YtkhdliobbbmkoaaTwMap
import Derived.Scope
namespace Go.Tw
set_option linter.unusedSimpArgs false
set_option linter.unusedVariables false
set_option linter.unusedSectionVars false
open Go Go.ChangeMaps
section
variable {κ β : Type} [DecidableEq κ] {P : Program} {w w' : World}
theorem findNow_gen {d : TypeDesc} {ek : κ → Value} (hs : ∀ a b, Instr.sameNow d (ek a) (ek b) = some (decide (a = b))) (k : κ) : ∀ (l : List MapEntry) (ks : List κ) (j : Nat), l.map (·.key) = ks.map ek → Instr.findNow d (ek k) l j = some ((keyAt ks k).bind fun i => (l[i]?).map fun e => (i + j, e.val))
  | [], [], j, _ => rfl
  | [], _ :: _, _, h => by simp at h
  | _ :: _, [], _, h => by simp at h
  | e :: l, a :: ks, j, h => by
    simp only [List.map_cons, List.cons.injEq] at h
    unfold Instr.findNow keyAt
    rw [h.1, hs]
    by_cases hk : a = k
    · subst hk; simp
    · have hk' : ¬ k = a := fun q => hk q.symm
      simp only [hk', decide_false, if_neg hk]
      rw [findNow_gen hs k l ks (j + 1) h.2]
      cases keyAt ks k <;> simp
      congr 1; funext e'; congr 1; omega
theorem KeyL.now {kt : TypeId} {d : TypeDesc} {ek : κ → Value} (hd : P.underlying kt = some d) (hs : ∀ a b, Instr.sameNow d (ek a) (ek b) = some (decide (a = b))) (hc : ∀ b k w, (Instr.checkKey b 10000 kt (ek k)).run P w = .ok () w) (hb : ∀ k, Instr.sameBits 10000 (ek k) (ek k) = true) : KeyL P kt ek :=
  ⟨hc, fun k l ks w h => by
    rw [MapKept.run_findKey hd (findNow_gen hs k l ks 0 h)]; simp, hb⟩
theorem chk_leaf {kt : TypeId} {d : TypeDesc} {k : Value} (hd : P.underlying kt = some d) (h : MapKept.IsKey d k) (b : Bool) (w : World) : (Instr.checkKey b 10000 kt k).run P w = .ok () w := MapKept.run_checkKey hd h b 9999
theorem KeyL.int {kt : TypeId} {q : IntKind} (hd : P.underlying kt = some (.int q)) : KeyL P kt (fun n : Int => .int q n) :=
  .now hd (fun a b => by simp only [Instr.sameNow, if_true]; rfl) (fun b k w => chk_leaf hd (by simp [MapKept.IsKey]) b w) (fun k => by rw [Instr.sameBits]; simp)
theorem beq_bytes (a b : ByteArray) : (a == b) = decide (a = b) := by
  rw [Bool.eq_iff_iff]; simp [MapKept.bytes_beq]
theorem KeyL.str {kt : TypeId} (hd : P.underlying kt = some .string) : KeyL P kt (fun s : ByteArray => .string s) :=
  .now hd (fun a b => by simp only [Instr.sameNow, beq_bytes]) (fun b k w => chk_leaf hd (by simp [MapKept.IsKey]) b w) (fun k => by rw [Instr.sameBits, beq_bytes]; simp)
theorem findAsk_gen {kt : TypeId} {ek : κ → Value} (he : ∀ a b w, (Op.equal kt (ek a) (ek b)).run P w = .ok (decide (a = b)) w) (k : κ) : ∀ (l : List MapEntry) (ks : List κ) (j : Nat) (w : World), l.map (·.key) = ks.map ek → (Instr.findAsking kt (ek k) l j).run P w = .ok ((keyAt ks k).bind fun i => (l[i]?).map fun e => (i + j, e.val)) w
  | [], [], j, _, _ => rfl
  | [], _ :: _, _, _, h => by simp at h
  | _ :: _, [], _, _, h => by simp at h
  | e :: l, a :: ks, j, w, h => by
    simp only [List.map_cons, List.cons.injEq] at h
    unfold Instr.findAsking keyAt
    rw [Sem.run_bind, h.1, he]
    by_cases hk : a = k
    · subst hk; simp [Result.andThen]
    · have hk' : ¬ k = a := fun q => hk q.symm
      simp only [Result.andThen, hk', decide_false, if_neg hk, Bool.false_eq_true, if_false]
      rw [findAsk_gen he k l ks (j + 1) w h.2]
      cases keyAt ks k <;> simp
      congr 1; funext e'; congr 1; omega
theorem KeyL.ask {kt : TypeId} {d : TypeDesc} {ek : κ → Value} (hd : P.underlying kt = some d) (hs : ∀ a b, Instr.sameNow d (ek a) (ek b) = none) (he : ∀ a b w, (Op.equal kt (ek a) (ek b)).run P w = .ok (decide (a = b)) w) (hc : ∀ b k w, (Instr.checkKey b 10000 kt (ek k)).run P w = .ok () w) (hb : ∀ k, Instr.sameBits 10000 (ek k) (ek k) = true) : KeyL P kt ek :=
  ⟨hc, fun k l ks w h => by
    unfold Instr.findKey
    simp only [Sem.run_bind, run_underlying hd, Result.andThen]
    cases l with
    | nil =>
      cases ks with
      | nil => simp [Instr.findNow, keyAt]
      | cons a r => simp at h
    | cons e l =>
      cases ks with
      | nil => simp at h
      | cons a r =>
        have h1 : e.key = ek a := by simp only [List.map_cons, List.cons.injEq] at h; exact h.1
        have h2 : Instr.findNow d (ek k) (e :: l) 0 = none := by unfold Instr.findNow; rw [h1, hs]
        rw [h2]
        have := findAsk_gen he k (e :: l) (a :: r) 0 w h
        simpa using this, hb⟩
variable {ek : κ → Value} {ev : β → Value} {es : Array MapEntry} {clock : Nat} {m : List (κ × β)}
/-- a range over a map under way: what was met, what is left -/
structure It (ek : κ → Value) (ev : β → Value) (es : Array MapEntry) (seen : Array Nat) (m vis left : List (κ × β)) : Prop where
  all : (vis ++ left).Perm m
  parts : ∃ V L : List MapEntry, (V ++ L).Perm es.toList ∧ seen.toList = V.map (·.born) ∧ V.map (fun e => (e.key, e.val)) = vis.map (fun p => (ek p.1, ev p.2)) ∧ L.map (fun e => (e.key, e.val)) = left.map (fun p => (ek p.1, ev p.2))
theorem It.start (h : MapOk ek ev es clock m) : It ek ev es #[] m [] m := ⟨by simp, [], es.toList, by simp, rfl, rfl, h.kv⟩
theorem split_map {γ δ ε : Type} {f : γ → ε} {g : δ → ε} : ∀ {L1 : List γ} {e : γ} {L2 : List γ} {l : List δ}, (L1 ++ e :: L2).map f = l.map g → ∃ l1 p l2, l = l1 ++ p :: l2 ∧ L1.map f = l1.map g ∧ f e = g p ∧ L2.map f = l2.map g
  | [], e, L2, [], h => by simp at h
  | [], e, L2, p :: l, h => by
    simp only [List.nil_append, List.map_cons, List.cons.injEq] at h
    exact ⟨[], p, l, rfl, rfl, h.1, h.2⟩
  | a :: L1, e, L2, [], h => by simp at h
  | a :: L1, e, L2, p :: l, h => by
    simp only [List.cons_append, List.map_cons, List.cons.injEq] at h
    obtain ⟨l1, q, l2, rfl, h1, h2, h3⟩ := split_map h.2
    exact ⟨p :: l1, q, l2, rfl, by simp [h.1, h1], h2, h3⟩
variable {w0 : World} {F0 : List Nat} {M : List (Nat × Obj)} {Fs : List (List Nat)}
theorem next_run (hC : Cx w0 F0 w M Fs) (q r : Nat) {b i : Nat} {seen : Array Nat} {vis left : List (κ × β)} (hq : M[q]? = some (b, .map es clock)) (hr : M[r]? = some (i, .mapIter (some b) clock seen clock)) (hm : MapOk ek ev es clock m) (hi : It ek ev es seen m vis left) (ty : TypeId) :
    (left = [] ∧ (Instr.next (.pointer (some ⟨i, 0, none⟩)) false ty).run P w = .ok (.tuple #[.bool false]) w) ∨
    ∃ p l1 l2 seen' w', left = l1 ++ p :: l2 ∧ (Instr.next (.pointer (some ⟨i, 0, none⟩)) false ty).run P w = .ok (.tuple #[.bool true, ek p.1, ev p.2]) w' ∧ Fr w w' [i] ∧
      Cx w0 F0 w' (M.set r (i, .mapIter (some b) clock seen' clock)) Fs ∧ It ek ev es seen' m (vis ++ [p]) (l1 ++ l2) ∧
      ∀ w2 : World, w2.heap[i]? = some (.mapIter (some b) clock seen' clock) → w2.heap[b]? = some (.map es clock) → (Instr.entry (.pointer (some ⟨i, 0, none⟩))).run P w2 = .ok (.tuple #[ek p.1, ev p.2]) w2 := by
  obtain ⟨V, L, hperm, hseen, hV, hL⟩ := hi.parts
  have hmem : ∀ e ∈ es.toList, (seen.contains e.born = false → e ∈ L) := fun e he hs => by
    have h1 := (hperm.mem_iff (a := e)).2 he
    rcases List.mem_append.1 h1 with h1 | h1
    · exfalso
      have h2 : e.born ∈ seen := by
        rw [← Array.mem_toList_iff, hseen]; exact List.mem_map.2 ⟨e, h1, rfl⟩
      have h3 : seen.contains e.born = true := by simpa using h2
      rw [hs] at h3; cases h3
    · exact h1
  have hnd : ((V ++ L).map (·.born)).Nodup := ((hperm.map (·.born)).nodup_iff).2 hm.apart
  have hL2 : ∀ e ∈ L, seen.contains e.born = false := fun e he => by
    cases hc : seen.contains e.born
    · rfl
    · exfalso
      have h2 : e.born ∈ seen.toList := by simpa using hc
      rw [hseen] at h2
      rw [List.map_append] at hnd
      exact (List.nodup_append.1 hnd).2.2 _ h2 _ (List.mem_map.2 ⟨e, he, rfl⟩) rfl
  have hLes : ∀ e ∈ L, e ∈ es.toList := fun e he => (hperm.mem_iff (a := e)).1 (List.mem_append_right _ he)
  rcases run_next_at (P := P) w ty i b clock clock seen es clock (hC.get r hr) (hC.get q hq) hm.born (Nat.le_refl _) with ⟨h0, hrun⟩ | ⟨e, he, w1, hw1, hrun⟩
  · left
    refine ⟨?_, hrun⟩
    cases L with
    | nil => exact (List.map_eq_nil_iff.1 hL.symm)
    | cons x r =>
      exfalso
      have h1 : x ∈ (leftOf es seen).toList := by
        simp only [leftOf, Array.toList_filter, List.mem_filter]
        exact ⟨hLes x (by simp), by have := hL2 x (by simp); simpa using this⟩
      have h2 : (leftOf es seen).toList.length = 0 := by simpa using h0
      rw [List.length_eq_zero_iff.1 h2] at h1; simp at h1
  · right
    have he' : e ∈ es.toList ∧ seen.contains e.born = false := by
      simpa [leftOf, Array.toList_filter, List.mem_filter] using he
    obtain ⟨L1, L2, hLs⟩ := List.append_of_mem (hmem e he'.1 he'.2)
    rw [hLs] at hL
    obtain ⟨l1, p, l2, hl, h1, h2, h3⟩ := split_map hL
    simp only [Prod.mk.injEq] at h2
    have hfr1 : Fr w w1 [] := by rcases hw1 with rfl | rfl; exact .refl _ _; exact .drew _
    have hi1 : w1.heap[i]? = some (.mapIter (some b) clock seen clock) := by rcases hw1 with rfl | rfl <;> exact hC.get r hr
    have hfr : Fr w (setBlock w1 i (.mapIter (some b) clock (seen.push e.born) clock)) [i] := (hfr1.mono (by simp)).trans (fr_setB hi1) (fun x hx => .inl hx)
    refine ⟨p, l1, l2, seen.push e.born, _, hl, ?_, hfr, hC.callM r hr hfr (heap_setB hi1), ⟨?_, V ++ [e], L1 ++ L2, ?_, ?_, ?_, ?_⟩, fun w2 h4 h5 => ?_⟩
    · rw [hrun, h2.1, h2.2]
    · refine List.Perm.trans ?_ hi.all
      rw [hl]
      simp only [List.append_assoc, List.singleton_append]
      exact List.Perm.append_left _ (List.perm_middle.symm)
    · refine List.Perm.trans ?_ hperm
      rw [hLs]
      simp only [List.append_assoc, List.singleton_append]
      exact List.Perm.append_left _ (List.perm_middle.symm)
    · simp [hseen]
    · simp [hV, h2.1, h2.2]
    · simp [h1, h3]
    · rw [← h2.1, ← h2.2]
      exact run_entry_at w2 i b clock seen es clock e h4 h5 he'.1 hm.apart
theorem Cx.startMs (w : World) (M : List (Nat × Obj)) (hn : (M.map (·.1)).Nodup) (hh : ∀ p ∈ M, w.heap[p.1]? = some p.2) : Cx w (M.map (·.1)) w M [] :=
  ⟨.refl _ _, hh, hn, by simp, by simp, by simp, fun p hp => .inl (List.mem_map.2 ⟨p, hp, rfl⟩), by simp⟩
theorem range_run (hC : Cx w0 F0 w M Fs) (q : Nat) {b : Nat} (hq : M[q]? = some (b, .map es clock)) {t kt et : TypeId} (ht : P.underlying t = some (.map kt et)) :
    ∃ i w', (Instr.range t (.map (some b))).run P w = .ok (.pointer (some ⟨i, 0, none⟩)) w' ∧ Fr w w' [] ∧ Cx w0 F0 w' (M ++ [(i, .mapIter (some b) clock #[] clock)]) Fs ∧ w.heap.size ≤ i :=
  ⟨w.heap.size, _, run_range_map w t kt et b es clock ht (hC.get q hq), Fr.alloc _ _, hC.alloc _, Nat.le_refl _⟩
theorem putM_run (hC : Cx w0 F0 w M Fs) (q : Nat) {b : Nat} (hq : M[q]? = some (b, .map es clock)) {t kt et : TypeId} (ht : P.underlying t = some (.map kt et)) (K : KeyL P kt ek) (hm : MapOk ek ev es clock m) (k : κ) (v : β) :
    ∃ w' es' clock', (Instr.mapUpdate t (.map (some b)) (ek k) (ev v)).run P w = .ok () w' ∧ Fr w w' [b] ∧ Cx w0 F0 w' (M.set q (b, .map es' clock')) Fs ∧ MapOk ek ev es' clock' (putL m k v) := by
  obtain ⟨w', es', c', h1, h2, h3, h4⟩ := run_putM ht K (hC.get q hq) hm k v
  exact ⟨w', es', c', h1, h2, hC.callM q hq h2 h3, h4⟩
theorem lookM_ok {t kt et : TypeId} (ht : P.underlying t = some (.map kt et)) (K : KeyL P kt ek) {d : β} (hz : ∀ w, (zeroValue et).run P w = .ok (ev d) w) {b : Nat} (hb : w.heap[b]? = some (.map es clock)) (hm : MapOk ek ev es clock m) (k : κ) {x : β} {o : Bool} (hx : (lookL m k).getD d = x) (ho : (lookL m k).isSome = o) :
    (Instr.lookup t (.map (some b)) (ek k) true).run P w = .ok (.tuple #[ev x, .bool o]) w := by
  subst hx ho; exact run_lookM ht K hz hb hm k true
theorem look_some {k : κ} {x d : β} (hx : (lookL m k).getD d = x) (ho : (lookL m k).isSome = true) : lookL m k = some x := by
  obtain ⟨y, hy⟩ := Option.isSome_iff_exists.1 ho
  rw [hy] at hx ⊢; exact congrArg some hx
theorem look_none {k : κ} {x d : β} (hx : (lookL m k).getD d = x) (ho : (lookL m k).isSome = false) : lookL m k = none ∧ x = d := by
  have h : lookL m k = none := by simpa using ho
  rw [h] at hx; exact ⟨h, hx.symm⟩
theorem Fr.shrink {F : List Nat} (h : Fr w w' F) (hs : ∀ x ∈ F, w'.heap[x]? = w.heap[x]?) : Fr w w' [] :=
  ⟨h.os, h.tape, h.output, h.size, fun k hk _ => by
    by_cases hF : k ∈ F
    · exact hs k hF
    · exact h.block k hk hF, h.drawn⟩
theorem It.perm_end {ek : κ → Value} {ev : β → Value} {es : Array MapEntry} {seen : Array Nat} {m vis left : List (κ × β)} (h : It ek ev es seen m vis left) (hl : left = []) : vis.Perm m := by
  have := h.all; rw [hl] at this; simpa using this
section
variable {n : Nat} {Q : Exit → Act → World → Prop} {E : Env}
end
end
end Go.Tw
