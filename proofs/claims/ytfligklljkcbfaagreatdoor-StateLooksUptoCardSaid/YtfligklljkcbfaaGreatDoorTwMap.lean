/- Laws on maps that the call itself makes: lookL-up, store, delete, length, range, for keys with an equality that the model decides. Each holds without conditions beyond those that stand in it. -/
import Derived.Test.YtfligklljkcbfaaGreatDoorTwEq
import Derived.Maps.RangeRun
import Derived.MapKept
import Derived.Laws.Entries
namespace Go.Tw
set_option linter.unusedSimpArgs false
set_option linter.unusedVariables false
set_option linter.unusedSectionVars false
open Go Go.ChangeMaps
section
variable {κ β : Type} [DecidableEq κ]
def lookL : List (κ × β) → κ → Option β
  | [], _ => none
  | (a, b) :: r, k => if a = k then some b else lookL r k
def putL : List (κ × β) → κ → β → List (κ × β)
  | [], k, v => [(k, v)]
  | (a, b) :: r, k, v => if a = k then (k, v) :: r else (a, b) :: putL r k v
def delL : List (κ × β) → κ → List (κ × β)
  | [], _ => []
  | (a, b) :: r, k => if a = k then r else (a, b) :: delL r k
def keyAt : List κ → κ → Option Nat
  | [], _ => none
  | a :: r, k => if a = k then some 0 else (keyAt r k).map (· + 1)
structure MapOk (ek : κ → Value) (ev : β → Value) (es : Array MapEntry) (clock : Nat) (m : List (κ × β)) : Prop where
  kv : es.toList.map (fun e => (e.key, e.val)) = m.map fun p => (ek p.1, ev p.2)
  keys : (m.map (·.1)).Nodup
  born : ∀ e ∈ es.toList, e.born < clock
  apart : (es.toList.map (·.born)).Nodup
theorem MapOk.nil (ek : κ → Value) (ev : β → Value) : MapOk ek ev #[] 0 [] := ⟨rfl, by simp, by simp, by simp⟩
variable {ek : κ → Value} {ev : β → Value} {es : Array MapEntry} {clock : Nat} {m : List (κ × β)}
theorem MapOk.len (h : MapOk ek ev es clock m) : es.size = m.length := by
  have := congrArg List.length h.kv; simpa using this
theorem MapOk.ks (h : MapOk ek ev es clock m) : es.toList.map (·.key) = (m.map (·.1)).map ek := by
  have := congrArg (List.map Prod.fst) h.kv
  simpa [List.map_map, Function.comp_def] using this
theorem MapOk.at_ (h : MapOk ek ev es clock m) {i : Nat} {p : κ × β} (hp : m[i]? = some p) : ∃ e, es.toList[i]? = some e ∧ e.key = ek p.1 ∧ e.val = ev p.2 := by
  have h1 := congrArg (·[i]?) h.kv
  simp only [List.getElem?_map, hp, Option.map_some] at h1
  obtain ⟨e, he, h2⟩ := Option.map_eq_some_iff.1 h1
  simp only [Prod.mk.injEq] at h2
  exact ⟨e, he, h2⟩
/-- what is asked of a key's type -/
structure KeyL (P : Program) (kt : TypeId) (ek : κ → Value) : Prop where
  chk : ∀ b k w, (Instr.checkKey b 10000 kt (ek k)).run P w = .ok () w
  find : ∀ k (l : List MapEntry) (ks : List κ) (w : World), l.map (·.key) = ks.map ek → (Instr.findKey kt (ek k) l).run P w = .ok ((keyAt ks k).bind fun i => (l[i]?).map fun e => (i, e.val)) w
  stay : ∀ k, Instr.sameBits 10000 (ek k) (ek k) = true
variable {P : Program} {w w' : World}
end
end Go.Tw
