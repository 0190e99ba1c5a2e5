/- Laws on ranging over a map, on the laws that keys' types keep, and on maps among tracked blocks. Each holds without conditions beyond those that stand in it. -/
import Derived.Test.YtfligklljkcbfaaGreatDoorTwMap
import Derived.Scope
namespace Go.Tw
set_option linter.unusedSimpArgs false
set_option linter.unusedVariables false
set_option linter.unusedSectionVars false
open Go Go.ChangeMaps
section
variable {κ β : Type} [DecidableEq κ] {P : Program} {w w' : World}
theorem findNow_gen {d : TypeDesc} {ek : κ → Value} (hs : ∀ a b, Instr.sameNow d (ek a) (ek b) = some (decide (a = b))) (k : κ) : ∀ (l : List MapEntry) (ks : List κ) (j : Nat), l.map (·.key) = ks.map ek → Instr.findNow d (ek k) l j = some ((keyAt ks k).bind fun i => (l[i]?).map fun e => (i + j, e.val))
  | [], [], j, _ => rfl
  | [], _ :: _, _, h => by simp at h
  | _ :: _, [], _, h => by simp at h
  | e :: l, a :: ks, j, h => by
    simp only [List.map_cons, List.cons.injEq] at h
    unfold Instr.findNow keyAt
    rw [h.1, hs]
    by_cases hk : a = k
    · subst hk; simp
    · have hk' : ¬ k = a := fun q => hk q.symm
      simp only [hk', decide_false, if_neg hk]
      rw [findNow_gen hs k l ks (j + 1) h.2]
      cases keyAt ks k <;> simp
      congr 1; funext e'; congr 1; omega
theorem KeyL.now {kt : TypeId} {d : TypeDesc} {ek : κ → Value} (hd : P.underlying kt = some d) (hs : ∀ a b, Instr.sameNow d (ek a) (ek b) = some (decide (a = b))) (hc : ∀ b k w, (Instr.checkKey b 10000 kt (ek k)).run P w = .ok () w) (hb : ∀ k, Instr.sameBits 10000 (ek k) (ek k) = true) : KeyL P kt ek :=
  ⟨hc, fun k l ks w h => by
    rw [MapKept.run_findKey hd (findNow_gen hs k l ks 0 h)]; simp, hb⟩
theorem chk_leaf {kt : TypeId} {d : TypeDesc} {k : Value} (hd : P.underlying kt = some d) (h : MapKept.IsKey d k) (b : Bool) (w : World) : (Instr.checkKey b 10000 kt k).run P w = .ok () w := MapKept.run_checkKey hd h b 9999
theorem KeyL.int {kt : TypeId} {q : IntKind} (hd : P.underlying kt = some (.int q)) : KeyL P kt (fun n : Int => .int q n) :=
  .now hd (fun a b => by simp only [Instr.sameNow, if_true]; rfl) (fun b k w => chk_leaf hd (by simp [MapKept.IsKey]) b w) (fun k => by rw [Instr.sameBits]; simp)
theorem findAsk_gen {kt : TypeId} {ek : κ → Value} (he : ∀ a b w, (Op.equal kt (ek a) (ek b)).run P w = .ok (decide (a = b)) w) (k : κ) : ∀ (l : List MapEntry) (ks : List κ) (j : Nat) (w : World), l.map (·.key) = ks.map ek → (Instr.findAsking kt (ek k) l j).run P w = .ok ((keyAt ks k).bind fun i => (l[i]?).map fun e => (i + j, e.val)) w
  | [], [], j, _, _ => rfl
  | [], _ :: _, _, _, h => by simp at h
  | _ :: _, [], _, _, h => by simp at h
  | e :: l, a :: ks, j, w, h => by
    simp only [List.map_cons, List.cons.injEq] at h
    unfold Instr.findAsking keyAt
    rw [Sem.run_bind, h.1, he]
    by_cases hk : a = k
    · subst hk; simp [Result.andThen]
    · have hk' : ¬ k = a := fun q => hk q.symm
      simp only [Result.andThen, hk', decide_false, if_neg hk, Bool.false_eq_true, if_false]
      rw [findAsk_gen he k l ks (j + 1) w h.2]
      cases keyAt ks k <;> simp
      congr 1; funext e'; congr 1; omega
theorem KeyL.ask {kt : TypeId} {d : TypeDesc} {ek : κ → Value} (hd : P.underlying kt = some d) (hs : ∀ a b, Instr.sameNow d (ek a) (ek b) = none) (he : ∀ a b w, (Op.equal kt (ek a) (ek b)).run P w = .ok (decide (a = b)) w) (hc : ∀ b k w, (Instr.checkKey b 10000 kt (ek k)).run P w = .ok () w) (hb : ∀ k, Instr.sameBits 10000 (ek k) (ek k) = true) : KeyL P kt ek :=
  ⟨hc, fun k l ks w h => by
    unfold Instr.findKey
    simp only [Sem.run_bind, run_underlying hd, Result.andThen]
    cases l with
    | nil =>
      cases ks with
      | nil => simp [Instr.findNow, keyAt]
      | cons a r => simp at h
    | cons e l =>
      cases ks with
      | nil => simp at h
      | cons a r =>
        have h1 : e.key = ek a := by simp only [List.map_cons, List.cons.injEq] at h; exact h.1
        have h2 : Instr.findNow d (ek k) (e :: l) 0 = none := by unfold Instr.findNow; rw [h1, hs]
        rw [h2]
        have := findAsk_gen he k (e :: l) (a :: r) 0 w h
        simpa using this, hb⟩
variable {ek : κ → Value} {ev : β → Value} {es : Array MapEntry} {clock : Nat} {m : List (κ × β)}
/-- a range over a map under way: what was met, what is left -/
structure It (ek : κ → Value) (ev : β → Value) (es : Array MapEntry) (seen : Array Nat) (m vis left : List (κ × β)) : Prop where
  all : (vis ++ left).Perm m
  parts : ∃ V L : List MapEntry, (V ++ L).Perm es.toList ∧ seen.toList = V.map (·.born) ∧ V.map (fun e => (e.key, e.val)) = vis.map (fun p => (ek p.1, ev p.2)) ∧ L.map (fun e => (e.key, e.val)) = left.map (fun p => (ek p.1, ev p.2))
theorem It.start (h : MapOk ek ev es clock m) : It ek ev es #[] m [] m := ⟨by simp, [], es.toList, by simp, rfl, rfl, h.kv⟩
variable {w0 : World} {F0 : List Nat} {M : List (Nat × Obj)} {Fs : List (List Nat)}
theorem Cx.startMs (w : World) (M : List (Nat × Obj)) (hn : (M.map (·.1)).Nodup) (hh : ∀ p ∈ M, w.heap[p.1]? = some p.2) : Cx w (M.map (·.1)) w M [] :=
  ⟨.refl _ _, hh, hn, by simp, by simp, by simp, fun p hp => .inl (List.mem_map.2 ⟨p, hp, rfl⟩), by simp⟩
section
variable {n : Nat} {Q : Exit → Act → World → Prop} {E : Env}
end
end
end Go.Tw
