/- Laws on an object whose own cells and one of whose rows a call turns together; on keys that are arrays of three whole numbers; on 'm[k]++' at a key that is not there. Each holds without conditions beyond those that stand in it. -/
import Derived.Test.YtjacpjdikhlcoaaTwByt
namespace Go.Tw
set_option linter.unusedSimpArgs false
set_option linter.unusedVariables false
set_option linter.unusedSectionVars false
open Go Go.RowKit Go.ChangeMaps
section
variable {P : Program} {w w' w0 : World} {F0 : List Nat} {M : List (Nat × Obj)} {Fs : List (List Nat)}
theorem Cx.callMF (h : Cx w0 F0 w M Fs) (k j : Nat) {b : Nat} {o o' : Obj} {F F' : List Nat} (hk : M[k]? = some (b, o)) (hj : Fs[j]? = some F) (hf : Fr w w' (b :: F)) (ho : w'.heap[b]? = some o') (hF' : ∀ x ∈ F', x ∈ F ∨ w.heap.size ≤ x) (hb : ∀ x ∈ F', x < w'.heap.size) : Cx w0 F0 w' (M.set k (b, o')) (Fs.set j F') := by
  have hbl := lt_of_heap (h.get k hk)
  have h1 : Cx w0 F0 (putRow w b o') (M.set k (b, o')) Fs := h.callM k hk (putRow_fr b _) (putRow_same hbl)
  have hfr := putRow_fr (w := w) b o'
  have hs : (putRow w b o').heap.size = w.heap.size := by simp [putRow]
  refine h1.callF j hj ⟨hf.os.trans hfr.os.symm, hf.tape.trans hfr.tape.symm, hf.output.trans hfr.output.symm, by rw [hs]; exact hf.size, fun q hq hn => ?_, fun d => hf.drawn d⟩ (by rw [hs]; exact hF') hb
  rw [hs] at hq
  by_cases e : q = b
  · subst e; rw [ho, putRow_same hbl]
  · rw [hf.block q hq (by simp [e, hn]), hfr.block q hq (by simp [e])]
theorem eqA3 {t e : TypeId} {k : IntKind} {d : Nat} (ht : P.underlying t = some (.array 3 e)) (he : P.underlying e = some (.int k)) (hs : ∀ w, (sizeOf e).run P w = .ok 1 w) (a b c a' b' c' : Int) (w : World) :
    (Op.equalIn (d + 2) t (.agg #[.int k a, .int k b, .int k c]) (.agg #[.int k a', .int k b', .int k c'])).run P w = .ok (decide ((a, b, c) = (a', b', c'))) w := by
  have hg : aggB P e = some false := by unfold aggB; rw [he]
  have p : ∀ (xs : Array Value) (o : Nat) (v : Value), xs[o]? = some v → ∀ w, (part e xs o).run P w = .ok v w := fun xs o v h w => run_part1 hg h
  have q : ∀ (x y : Int) (w : World), (Op.equalIn (d + 1) e (.int k x) (.int k y)).run P w = .ok (x == y) w := fun x y w => run_equalIn_int w d e k k x y he
  have p0 : ∀ (x y z : Int) w, (part e #[.int k x, .int k y, .int k z] 0).run P w = .ok (.int k x) w := fun x y z w => p _ 0 _ rfl w
  have p1 : ∀ (x y z : Int) w, (part e #[.int k x, .int k y, .int k z] 1).run P w = .ok (.int k y) w := fun x y z w => p _ 1 _ rfl w
  have p2 : ∀ (x y z : Int) w, (part e #[.int k x, .int k y, .int k z] 2).run P w = .ok (.int k z) w := fun x y z w => p _ 2 _ rfl w
  unfold Op.equalIn
  simp only [Sem.run_bind, run_underlying ht, Result.andThen_ok, hs, Nat.mul_one]
  rw [Std.Legacy.Range.forIn_eq_forIn_range']
  simp only [Std.Legacy.Range.size, List.range'_succ, List.range'_zero, List.forIn_cons, List.forIn_nil]
  by_cases h1 : a = a' <;> by_cases h2 : b = b' <;> by_cases h3 : c = c' <;> simp [Sem.run_bind, p0, p1, p2, q, Result.andThen_ok, h1, h2, h3, Prod.mk.injEq]
def ek3 (p : Int × Int × Int) : Value := .agg #[.int .i64 p.1, .int .i64 p.2.1, .int .i64 p.2.2]
theorem KeyL.arr3 {kt e : TypeId} (ht : P.underlying kt = some (.array 3 e)) (he : P.underlying e = some (.int .i64)) (hs : ∀ w, (sizeOf e).run P w = .ok 1 w) (hc : ∀ b k w, (Instr.checkKey b 10000 kt (ek3 k)).run P w = .ok () w) : KeyL P kt ek3 :=
  .ask ht (fun a b => rfl) (fun a b w => by
    show (Op.equalIn (9998 + 2) kt _ _).run P w = _
    exact eqA3 ht he hs a.1 a.2.1 a.2.2 b.1 b.2.1 b.2.2 w) hc (fun k => by unfold ek3; rw [Instr.sameBits]; simp [Instr.sameBits])
variable {κ β : Type} [DecidableEq κ] {ek : κ → Value} {ev : β → Value} {es : Array MapEntry} {clock : Nat} {m : List (κ × β)}
/-- the entry of a key that is not there, and the store into it -/
theorem entry_run (hC : Cx w0 F0 w M Fs) (q : Nat) {b : Nat} (hq : M[q]? = some (b, .map es clock)) {t kt et : TypeId} (ht : P.underlying t = some (.map kt et)) (K : KeyL P kt ek) (hm : MapOk ek ev es clock m) {d : β} (hz : ∀ w, (zeroValue et).run P w = .ok (ev d) w) (k : κ) (hk : lookL m k = none) :
    ∃ w' es', (Instr.mapEntry t (.map (some b)) (ek k)).run P w = .ok (.tuple #[ev d, goInt clock]) w' ∧ Fr w w' [b] ∧ Cx w0 F0 w' (M.set q (b, .map es' (clock + 1))) Fs ∧ MapOk ek ev es' (clock + 1) (m ++ [(k, d)]) ∧ (∃ e0 : Array MapEntry, es' = e0.push { key := ek k, val := ev d, born := clock } ∧ ∀ e ∈ e0.toList, e.born < clock) := by
  have hb := hC.get q hq
  have hf := K.find k es.toList (m.map (·.1)) w hm.ks
  have hkn : keyAt (m.map (·.1)) k = none := by
    cases h : keyAt (m.map (·.1)) k with
    | none => rfl
    | some i =>
      exfalso
      have h1 := keyAt_some h
      rw [List.getElem?_map] at h1
      obtain ⟨p, hp, _⟩ := Option.map_eq_some_iff.1 h1
      rw [lookL_at, h] at hk
      simp [hp] at hk
  rw [hkn] at hf
  have h2 : (Instr.mapEntry t (.map (some b)) (ek k)).run P w = .ok (.tuple #[ev d, goInt clock]) (setBlock w b (.map (es.push { key := ek k, val := ev d, born := clock }) (clock + 1))) := by
    unfold Instr.mapEntry
    simp only [Sem.run_bind, run_underlying ht, Result.andThen, MapKept.run_getObj_map hb, Sem.run_pure, K.chk, hf, Option.bind_none, hz]
    rw [MapKept.run_setObj_map _ hb]; rfl
  have hm2 : MapOk ek ev (es.push { key := ek k, val := ev d, born := clock }) (clock + 1) (m ++ [(k, d)]) := by
    refine ⟨by simp [hm.kv], ?_, fun e he => ?_, ?_⟩
    · have := putL_keys m k d hm.keys
      rw [putL_at, hkn] at this; exact this
    · simp only [Array.toList_push, List.mem_append, List.mem_singleton] at he
      rcases he with he | rfl
      · have := hm.born e he; omega
      · exact Nat.lt_succ_self _
    · simp only [Array.toList_push, List.map_append, List.map_cons, List.map_nil]
      refine List.nodup_append.2 ⟨hm.apart, by simp, fun a ha c hc => ?_⟩
      simp at hc
      obtain ⟨e, he, rfl⟩ := List.mem_map.1 ha
      have := hm.born e he; omega
  exact ⟨_, _, h2, fr_setB hb, hC.callM q hq (fr_setB hb) (heap_setB hb), hm2, es, rfl, hm.born⟩
theorem run_entryStore (hC : Cx w0 F0 w M Fs) (q : Nat) {b : Nat} {e0 : Array MapEntry} {kv v0 : Value} (hq : M[q]? = some (b, .map (e0.push { key := kv, val := v0, born := clock }) (clock + 1))) (hb0 : ∀ e ∈ e0.toList, e.born < clock) (t : TypeId) (v : Value) :
    ∃ w', (Instr.entryStore t (.map (some b)) (goInt clock) v).run P w = .ok () w' ∧ Fr w w' [b] ∧ Cx w0 F0 w' (M.set q (b, .map (e0.push { key := kv, val := v, born := clock }) (clock + 1))) Fs := by
  have hb := hC.get q hq
  have hfi : (e0.push { key := kv, val := v0, born := clock }).findIdx? (fun e => (e.born : Int) == (clock : Int)) = some e0.size := by
    rw [Array.findIdx?_eq_some_iff_findIdx_eq]
    refine ⟨by simp, ?_⟩
    rw [Array.findIdx_eq (by simp)]
    refine ⟨by simp, fun j hj => ?_⟩
    have hj' : j < e0.size := hj
    have h1 := hb0 e0[j] (by simp)
    simp only [Array.getElem_push_lt hj']
    simp; omega
  refine ⟨_, ?_, fr_setB hb, hC.callM q hq (fr_setB hb) (heap_setB hb)⟩
  unfold Instr.entryStore
  simp only [Sem.run_bind, Result.andThen, MapKept.run_getObj_map hb, Sem.run_pure, goInt, asInt, asIntOf]
  rw [hfi]
  have e2 : (e0.push { key := kv, val := v0, born := clock }).modify e0.size (fun e => { e with val := v }) = e0.push { key := kv, val := v, born := clock } := by
    apply Array.ext'
    rw [Array.toList_modify, Array.toList_push, Array.toList_push, ← Array.length_toList]
    refine List.ext_getElem? fun j => ?_
    rw [List.getElem?_modify]
    by_cases h : j < e0.toList.length
    · rw [List.getElem?_append_left h, List.getElem?_append_left h]
      have : ¬ e0.size = j := by simp at h; omega
      simp [this]
    · rw [List.getElem?_append_right (by omega), List.getElem?_append_right (by omega)]
      by_cases h2 : e0.toList.length = j
      · subst h2; simp
      · have h4 : ¬ e0.size = j := by simpa using h2
        obtain ⟨i, hi⟩ : ∃ i, j - e0.toList.length = i + 1 := ⟨j - e0.toList.length - 1, by omega⟩
        simp only [h2, hi]; simp [h4]
  simp only [e2]
  exact MapKept.run_setObj_map _ hb
theorem MapOk.reval {e0 : Array MapEntry} {k : κ} {d v : β} (h : MapOk ek ev (e0.push { key := ek k, val := ev d, born := clock }) (clock + 1) (m ++ [(k, d)])) : MapOk ek ev (e0.push { key := ek k, val := ev v, born := clock }) (clock + 1) (m ++ [(k, v)]) := by
  obtain ⟨h1, h2, h3, h4⟩ := h
  have hkv : e0.toList.map (fun e => (e.key, e.val)) = m.map fun p => (ek p.1, ev p.2) := by
    simp only [Array.toList_push, List.map_append, List.map_cons, List.map_nil] at h1
    exact (List.append_inj' h1 rfl).1
  refine ⟨by simp [hkv], by simpa using h2, fun e he => ?_, by simpa using h4⟩
  simp only [Array.toList_push, List.mem_append, List.mem_singleton] at he
  rcases he with he | rfl
  · exact h3 e (by simp [he])
  · exact Nat.lt_succ_self _
end
end Go.Tw
