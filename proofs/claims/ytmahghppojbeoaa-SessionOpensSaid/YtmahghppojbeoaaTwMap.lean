/- Laws on maps that the call itself makes: lookL-up, store, delete, length, range, for keys with an equality that the model decides. Each holds without conditions beyond those that stand in it. -/
import Derived.Test.YtmahghppojbeoaaTwEq
import Derived.Maps.RangeRun
import Derived.MapKept
import Derived.Laws.Entries
namespace Go.Tw
set_option linter.unusedSimpArgs false
set_option linter.unusedVariables false
set_option linter.unusedSectionVars false
open Go Go.ChangeMaps
section
variable {κ β : Type} [DecidableEq κ]
def lookL : List (κ × β) → κ → Option β
  | [], _ => none
  | (a, b) :: r, k => if a = k then some b else lookL r k
def putL : List (κ × β) → κ → β → List (κ × β)
  | [], k, v => [(k, v)]
  | (a, b) :: r, k, v => if a = k then (k, v) :: r else (a, b) :: putL r k v
def delL : List (κ × β) → κ → List (κ × β)
  | [], _ => []
  | (a, b) :: r, k => if a = k then r else (a, b) :: delL r k
def keyAt : List κ → κ → Option Nat
  | [], _ => none
  | a :: r, k => if a = k then some 0 else (keyAt r k).map (· + 1)
theorem keyAt_some : ∀ {ks : List κ} {k : κ} {i : Nat}, keyAt ks k = some i → ks[i]? = some k
  | a :: r, k, i, h => by
    unfold keyAt at h
    split at h
    · rename_i e; cases h; simp [e]
    · obtain ⟨j, hj, rfl⟩ := Option.map_eq_some_iff.1 h
      simpa using keyAt_some hj
theorem keyAt_none : ∀ {ks : List κ} {k : κ}, keyAt ks k = none → k ∉ ks
  | [], _, _ => by simp
  | a :: r, k, h => by
    unfold keyAt at h
    split at h
    · cases h
    · rename_i e
      simp only [List.mem_cons, not_or]
      exact ⟨fun q => e q.symm, keyAt_none (by simpa using h)⟩
theorem lookL_at : ∀ (m : List (κ × β)) (k : κ), lookL m k = (keyAt (m.map (·.1)) k).bind fun i => (m[i]?).map (·.2)
  | [], _ => rfl
  | (a, b) :: r, k => by
    simp only [lookL, List.map_cons, keyAt]
    by_cases h : a = k
    · simp [h]
    · rw [if_neg h, if_neg h, lookL_at r k]
      cases keyAt (r.map (·.1)) k <;> simp
theorem putL_at : ∀ (m : List (κ × β)) (k : κ) (v : β), putL m k v = match keyAt (m.map (·.1)) k with | some i => m.set i (k, v) | none => m ++ [(k, v)]
  | [], _, _ => rfl
  | (a, b) :: r, k, v => by
    simp only [putL, List.map_cons, keyAt]
    by_cases h : a = k
    · simp [h]
    · rw [if_neg h, if_neg h, putL_at r k v]
      cases keyAt (r.map (·.1)) k <;> simp
theorem delL_at : ∀ (m : List (κ × β)) (k : κ), delL m k = match keyAt (m.map (·.1)) k with | some i => m.eraseIdx i | none => m
  | [], _ => rfl
  | (a, b) :: r, k => by
    simp only [delL, List.map_cons, keyAt]
    by_cases h : a = k
    · simp [h]
    · rw [if_neg h, if_neg h, delL_at r k]
      cases keyAt (r.map (·.1)) k <;> simp
theorem putL_keys (m : List (κ × β)) (k : κ) (v : β) (h : (m.map (·.1)).Nodup) : ((putL m k v).map (·.1)).Nodup := by
  rw [putL_at]
  cases hk : keyAt (m.map (·.1)) k with
  | some i =>
    have h1 := keyAt_some hk
    have e : (m.set i (k, v)).map (·.1) = m.map (·.1) := by
      rw [List.map_set]
      exact List.ext_getElem? fun j => by
        rw [List.getElem?_set]
        split
        · rename_i e; subst e
          split
          · exact h1.symm
          · rename_i h2; rw [List.getElem?_eq_none (by simpa using h2)]
        · rfl
    simpa only [e] using h
  | none =>
    have h1 := keyAt_none hk
    simp only [List.map_append, List.map_cons, List.map_nil]
    exact List.nodup_append.2 ⟨h, by simp, fun a ha b hb => by simp at hb; subst hb; exact fun e => h1 (e ▸ ha)⟩
theorem delL_keys (m : List (κ × β)) (k : κ) (h : (m.map (·.1)).Nodup) : ((delL m k).map (·.1)).Nodup := by
  rw [delL_at]
  cases hk : keyAt (m.map (·.1)) k with
  | some i => exact (((List.eraseIdx_sublist m i).map _).nodup h)
  | none => exact h
theorem map_eraseI {α γ : Type} (f : α → γ) : ∀ (l : List α) (i : Nat), (l.eraseIdx i).map f = (l.map f).eraseIdx i
  | [], _ => rfl
  | _ :: _, 0 => rfl
  | a :: l, i + 1 => by simp [map_eraseI f l i]
structure MapOk (ek : κ → Value) (ev : β → Value) (es : Array MapEntry) (clock : Nat) (m : List (κ × β)) : Prop where
  kv : es.toList.map (fun e => (e.key, e.val)) = m.map fun p => (ek p.1, ev p.2)
  keys : (m.map (·.1)).Nodup
  born : ∀ e ∈ es.toList, e.born < clock
  apart : (es.toList.map (·.born)).Nodup
theorem MapOk.nil (ek : κ → Value) (ev : β → Value) : MapOk ek ev #[] 0 [] := ⟨rfl, by simp, by simp, by simp⟩
variable {ek : κ → Value} {ev : β → Value} {es : Array MapEntry} {clock : Nat} {m : List (κ × β)}
theorem MapOk.len (h : MapOk ek ev es clock m) : es.size = m.length := by
  have := congrArg List.length h.kv; simpa using this
theorem MapOk.ks (h : MapOk ek ev es clock m) : es.toList.map (·.key) = (m.map (·.1)).map ek := by
  have := congrArg (List.map Prod.fst) h.kv
  simpa [List.map_map, Function.comp_def] using this
theorem MapOk.at_ (h : MapOk ek ev es clock m) {i : Nat} {p : κ × β} (hp : m[i]? = some p) : ∃ e, es.toList[i]? = some e ∧ e.key = ek p.1 ∧ e.val = ev p.2 := by
  have h1 := congrArg (·[i]?) h.kv
  simp only [List.getElem?_map, hp, Option.map_some] at h1
  obtain ⟨e, he, h2⟩ := Option.map_eq_some_iff.1 h1
  simp only [Prod.mk.injEq] at h2
  exact ⟨e, he, h2⟩
/-- what is asked of a key's type -/
structure KeyL (P : Program) (kt : TypeId) (ek : κ → Value) : Prop where
  chk : ∀ b k w, (Instr.checkKey b 10000 kt (ek k)).run P w = .ok () w
  find : ∀ k (l : List MapEntry) (ks : List κ) (w : World), l.map (·.key) = ks.map ek → (Instr.findKey kt (ek k) l).run P w = .ok ((keyAt ks k).bind fun i => (l[i]?).map fun e => (i, e.val)) w
  stay : ∀ k, Instr.sameBits 10000 (ek k) (ek k) = true
variable {P : Program} {w w' : World}
theorem run_lookM {t kt et : TypeId} (ht : P.underlying t = some (.map kt et)) (K : KeyL P kt ek) {d : β} (hz : ∀ w, (zeroValue et).run P w = .ok (ev d) w) {b : Nat} (hb : w.heap[b]? = some (.map es clock)) (hm : MapOk ek ev es clock m) (k : κ) (ok : Bool) :
    (Instr.lookup t (.map (some b)) (ek k) ok).run P w = .ok (if ok then .tuple #[ev ((lookL m k).getD d), .bool (lookL m k).isSome] else ev ((lookL m k).getD d)) w := by
  unfold Instr.lookup
  simp only [Sem.run_bind, run_underlying ht, Result.andThen, MapKept.run_getObj_map hb, Sem.run_pure, K.chk, K.find k es.toList (m.map (·.1)) w hm.ks]
  rw [lookL_at]
  cases hk : keyAt (m.map (·.1)) k with
  | none => simp [hz, Result.andThen, Sem.run_bind]
  | some i =>
    have h1 := keyAt_some hk
    rw [List.getElem?_map] at h1
    obtain ⟨p, hp, hp1⟩ := Option.map_eq_some_iff.1 h1
    obtain ⟨e, he, _, hev⟩ := hm.at_ hp
    have he' : es[i]? = some e := by simpa using he
    simp [he', hp, hev, Result.andThen, Sem.run_bind]
theorem heap_setB {b : Nat} {o o' : Obj} (hb : w.heap[b]? = some o) : (setBlock w b o').heap[b]? = some o' := (MapKept.heap_set hb).1
theorem fr_setB {b : Nat} {o' : Obj} {o : Obj} (hb : w.heap[b]? = some o) : Fr w (setBlock w b o') [b] :=
  ⟨rfl, rfl, rfl, by simp [setBlock], fun k _ hn => (MapKept.heap_set hb).2 k (fun e => hn (by simp [e])), fun _ => Nat.le_refl _⟩
theorem run_putM {t kt et : TypeId} (ht : P.underlying t = some (.map kt et)) (K : KeyL P kt ek) {b : Nat} (hb : w.heap[b]? = some (.map es clock)) (hm : MapOk ek ev es clock m) (k : κ) (v : β) :
    ∃ w' es' clock', (Instr.mapUpdate t (.map (some b)) (ek k) (ev v)).run P w = .ok () w' ∧ Fr w w' [b] ∧ w'.heap[b]? = some (.map es' clock') ∧ MapOk ek ev es' clock' (putL m k v) := by
  have hf := K.find k es.toList (m.map (·.1)) w hm.ks
  have hput := putL_at m k v
  cases hk : keyAt (m.map (·.1)) k with
  | none =>
    rw [hk] at hf hput
    refine ⟨setBlock w b (.map (es.push { key := ek k, val := ev v, born := clock }) (clock + 1)), _, _, ?_, fr_setB hb, heap_setB hb, ?_, ?_, ?_, ?_⟩
    · unfold Instr.mapUpdate
      simp only [Sem.run_bind, run_underlying ht, Result.andThen, MapKept.run_getObj_map hb, Sem.run_pure, K.chk, hf, Option.bind_none]
      exact MapKept.run_setObj_map _ hb
    · rw [hput]; simp [hm.kv]
    · exact putL_keys m k v hm.keys
    · intro e he
      simp only [Array.toList_push, List.mem_append, List.mem_singleton] at he
      rcases he with he | rfl
      · have := hm.born e he; omega
      · exact Nat.lt_succ_self _
    · simp only [Array.toList_push, List.map_append, List.map_cons, List.map_nil]
      refine List.nodup_append.2 ⟨hm.apart, by simp, fun a ha c hc => ?_⟩
      simp at hc
      obtain ⟨e, he, rfl⟩ := List.mem_map.1 ha
      have := hm.born e he; omega
  | some i =>
    rw [hk] at hf hput
    have h1 := keyAt_some hk
    rw [List.getElem?_map] at h1
    obtain ⟨p, hp, hp1⟩ := Option.map_eq_some_iff.1 h1
    obtain ⟨e, he, hek, hev⟩ := hm.at_ hp
    have hi : i < es.size := by have := (List.getElem?_eq_some_iff.1 he).1; simpa using this
    have he' : es[i]? = some e := by simpa using he
    refine ⟨setBlock w b (.map (es.modify i fun e => { e with key := ek k, val := ev v }) clock), _, _, ?_, fr_setB hb, heap_setB hb, ?_, ?_, ?_, ?_⟩
    · unfold Instr.mapUpdate
      simp only [Sem.run_bind, run_underlying ht, Result.andThen, MapKept.run_getObj_map hb, Sem.run_pure, K.chk, hf, Option.bind_some, he, Option.map_some, he', Option.getD_some, Instr.keyThatStays, hek, hp1, K.stay, if_true]
      exact MapKept.run_setObj_map _ hb
    · rw [hput]
      have e2 : (es.modify i fun e => { e with key := ek k, val := ev v }).toList = es.toList.set i { e with key := ek k, val := ev v } := by
        rw [Array.toList_modify]
        exact List.ext_getElem? fun j => by
          rw [List.getElem?_modify, List.getElem?_set]
          by_cases h : i = j
          · subst h
            obtain ⟨_, hee⟩ := Array.getElem?_eq_some_iff.1 he'
            simp [he, hi, hee]
          · simp [h]
      rw [e2, List.map_set, hm.kv, List.map_set]
    · exact putL_keys m k v hm.keys
    · intro x hx
      obtain ⟨j, hj⟩ := List.getElem?_of_mem hx
      rw [Array.toList_modify, List.getElem?_modify] at hj
      obtain ⟨y, hy, rfl⟩ := Option.map_eq_some_iff.1 hj
      have := hm.born y (List.mem_of_getElem? hy)
      split <;> exact this
    · have e2 : (es.modify i fun e => { e with key := ek k, val := ev v }).toList.map (·.born) = es.toList.map (·.born) := by
        rw [Array.toList_modify]
        exact List.ext_getElem? fun j => by
          simp only [List.getElem?_map, List.getElem?_modify]
          cases es.toList[j]? with
          | none => rfl
          | some y => simp only [Option.map_some]; split <;> rfl
      rw [e2]; exact hm.apart
theorem run_delM {t kt et ty : TypeId} (ht : P.underlying t = some (.map kt et)) (K : KeyL P kt ek) {b : Nat} (hb : w.heap[b]? = some (.map es clock)) (hm : MapOk ek ev es clock m) (k : κ) (t2 : TypeId) :
    ∃ w' es', (Builtin.delete_ #[t, t2] ty #[.map (some b), ek k]).run P w = .ok (.tuple #[]) w' ∧ Fr w w' [b] ∧ w'.heap[b]? = some (.map es' clock) ∧ MapOk ek ev es' clock (delL m k) := by
  have hf := K.find k es.toList (m.map (·.1)) w hm.ks
  have hd := delL_at m k
  cases hk : keyAt (m.map (·.1)) k with
  | none =>
    rw [hk] at hf hd
    refine ⟨setBlock w b (.map es clock), _, ?_, fr_setB hb, heap_setB hb, ?_⟩
    · unfold Builtin.delete_
      simp only [List.getElem?_toArray, List.getElem?_cons_zero, List.getElem?_cons_succ, Sem.run_bind, run_underlying ht, Result.andThen, MapKept.run_getObj_map hb, Sem.run_pure, K.chk, hf, Option.bind_none]
      rw [MapKept.run_setObj_map _ hb]; rfl
    · rw [hd]; exact hm
  | some i =>
    rw [hk] at hf hd
    have h1 := keyAt_some hk
    rw [List.getElem?_map] at h1
    obtain ⟨p, hp, hp1⟩ := Option.map_eq_some_iff.1 h1
    obtain ⟨e, he, hek, hev⟩ := hm.at_ hp
    have hi : i < es.size := by have := (List.getElem?_eq_some_iff.1 he).1; simpa using this
    have e2 : (es.eraseIdxIfInBounds i).toList = es.toList.eraseIdx i := by
      rw [Array.eraseIdxIfInBounds, dif_pos hi, Array.toList_eraseIdx]
    have hsub : (es.toList.eraseIdx i).Sublist es.toList := List.eraseIdx_sublist _ _
    refine ⟨setBlock w b (.map (es.eraseIdxIfInBounds i) clock), _, ?_, fr_setB hb, heap_setB hb, ?_, ?_, ?_, ?_⟩
    · unfold Builtin.delete_
      simp only [List.getElem?_toArray, List.getElem?_cons_zero, List.getElem?_cons_succ, Sem.run_bind, run_underlying ht, Result.andThen, MapKept.run_getObj_map hb, Sem.run_pure, K.chk, hf, Option.bind_some, he, Option.map_some]
      rw [MapKept.run_setObj_map _ hb]; rfl
    · rw [hd, e2, map_eraseI, hm.kv, map_eraseI]
    · exact delL_keys m k hm.keys
    · rw [e2]; exact fun x hx => hm.born x (hsub.subset hx)
    · rw [e2]; exact (hsub.map _).nodup hm.apart
end
end Go.Tw
