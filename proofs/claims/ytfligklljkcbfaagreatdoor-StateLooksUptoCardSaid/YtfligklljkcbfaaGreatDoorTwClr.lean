/- The walk's own words: clear on a row's rest; min; a frame as growth. Over any program. -/
import Derived.Test.YtfligklljkcbfaaGreatDoorTwObj
import Derived.Lib.MinMax
import Derived.Sort.Grow
import Derived.Deep.Draws
namespace Go.Tw
set_option linter.unusedSimpArgs false
set_option linter.unusedVariables false
set_option linter.unusedSectionVars false
open Go.RowKit Go.Sort
section
variable {P : Program} {w w' w0 : World} {F0 : List Nat} {M : List (Nat × Obj)} {Fs : List (List Nat)}
def zOne (P : Program) (e : Nat) : Bool := match P.info? e with
  | some i => match i.zero with | some z => z.cells.toList.all Value.oneCell' | none => false
  | none => false
theorem clear_run (hC : Cx w0 F0 w M Fs) (j : Nat) {A A2 : Option Addr} {t ty e sz bytes nn c i : Nat} {X : List Value} (hty : rowTy P t e sz bytes = true) (hz1 : zOne P e = true) (hj : Fs[j]? = some (blk (.slice A nn c)))
    (hown : w.ownsRow 0 e sz (.slice A nn c) nn X) (hi : i < nn) (hA2 : slcAt A i c sz = A2) :
    ∃ w', (Builtin.clear_ #[t] ty #[.slice A2 (nn - i) (c - i)]).run P w = .ok (.tuple #[]) w' ∧ Fr w w' (blk (.slice A nn c)) ∧ Cx w0 F0 w' M (Fs.set j (blk (.slice A i c))) ∧ w'.ownsRow 0 e sz (.slice A i c) i (X.take (i * sz)) := by
  obtain ⟨hu, inf, z, hinf, hz, hs, hby, hzs, hpos⟩ := rowTy_spec hty
  obtain ⟨g, cur, rfl, hg0, hb, hle, hmax, hsize, htake⟩ := own_blkd hown (by omega)
  rw [slcAt_blk (o2 := i * sz) (by omega) (by omega)] at hA2
  subst hA2
  have hone : ∀ v ∈ z.cells.toList, v.oneCell' = true := by
    unfold zOne at hz1
    rw [hinf] at hz1
    simp only [hz] at hz1
    exact List.all_eq_true.1 hz1
  have hlen : (Builtin.zeroCells z.cells (nn - i)).toList.length = (nn - i) * sz := by rw [Array.length_toList, size_zeroCells, hzs]
  have hc1 : ∀ v ∈ (Builtin.zeroCells z.cells (nn - i)).toList, v.oneCell' = true := by
    intro v hv
    unfold Builtin.zeroCells at hv
    simp only [Array.toList_map, List.mem_map] at hv
    obtain ⟨q, hq, rfl⟩ := hv
    have hlt : q % z.cells.size < z.cells.size := Nat.mod_lt _ (by omega)
    rw [getElem!_pos z.cells (q % z.cells.size) hlt]
    exact hone _ (by simp)
  have hfit : i * sz + 0 + (Builtin.zeroCells z.cells (nn - i)).toList.length ≤ cur.size := by
    rw [hlen, hsize, Nat.add_zero, ← Nat.add_mul]; exact Nat.mul_le_mul_right _ (by omega)
  have hst := run_storeCells_at P g (i * sz) e (Builtin.zeroCells z.cells (nn - i)).toList 0 cur w hb hfit hc1
  have hr : (Builtin.clear_ #[t] ty #[.slice (some ⟨g, i * sz, none⟩) (nn - i) (c - i)]).run P w = .ok (.tuple #[]) (w.setRow g (cur.toList.take (i * sz + 0) ++ (Builtin.zeroCells z.cells (nn - i)).toList ++ cur.toList.drop (i * sz + 0 + (Builtin.zeroCells z.cells (nn - i)).toList.length)).toArray) := by
    obtain ⟨W', hW'⟩ : ∃ W', W' = w.setRow g (cur.toList.take (i * sz + 0) ++ (Builtin.zeroCells z.cells (nn - i)).toList ++ cur.toList.drop (i * sz + 0 + (Builtin.zeroCells z.cells (nn - i)).toList.length)).toArray := ⟨_, rfl⟩
    rw [← hW'] at hst ⊢
    obtain ⟨m, hm⟩ : ∃ m, nn - i = m + 1 := ⟨nn - i - 1, by omega⟩
    rw [hm] at hst ⊢
    simp [Builtin.clear_, run_underlying hu, zeroValue, typeInfo, hinf, hz]
    rw [hst]; rfl
  have hlt := lt_of_heap hb
  have hbk : blk (Value.slice (some ⟨g, 0, none⟩) nn c) = [g] := by simp [blk, Value.ownBlock]
  have hbk2 : blk (Value.slice (some ⟨g, 0, none⟩) i c) = [g] := by simp [blk, Value.ownBlock]
  have hnew : (w.setRow g (cur.toList.take (i * sz + 0) ++ (Builtin.zeroCells z.cells (nn - i)).toList ++ cur.toList.drop (i * sz + 0 + (Builtin.zeroCells z.cells (nn - i)).toList.length)).toArray).heap[g]? = some (.cells (cur.toList.take (i * sz + 0) ++ (Builtin.zeroCells z.cells (nn - i)).toList ++ cur.toList.drop (i * sz + 0 + (Builtin.zeroCells z.cells (nn - i)).toList.length)).toArray e (0, 0)) := by
    simp [World.setRow, Array.getElem?_modify, hb]
  have hfr : Fr w (w.setRow g (cur.toList.take (i * sz + 0) ++ (Builtin.zeroCells z.cells (nn - i)).toList ++ cur.toList.drop (i * sz + 0 + (Builtin.zeroCells z.cells (nn - i)).toList.length)).toArray) [g] :=
    ⟨rfl, rfl, rfl, by simp [World.setRow], fun k hk hn => by
      have : g ≠ k := fun h => hn (by simp [h])
      simp [World.setRow, Array.getElem?_modify, this], fun _ => Nat.le_refl _⟩
  have hown' : (w.setRow g (cur.toList.take (i * sz + 0) ++ (Builtin.zeroCells z.cells (nn - i)).toList ++ cur.toList.drop (i * sz + 0 + (Builtin.zeroCells z.cells (nn - i)).toList.length)).toArray).ownsRow 0 e sz (.slice (some ⟨g, 0, none⟩) i c) i (X.take (i * sz)) := by
    have hmul : i * sz ≤ nn * sz := Nat.mul_le_mul_right _ (by omega)
    have hmul2 : nn * sz ≤ c * sz := Nat.mul_le_mul_right _ hle
    refine own_of_blk (Nat.zero_le _) hnew (by omega) hmax ?_ ?_
    · simp only [List.size_toArray, List.length_append, List.length_take, List.length_drop, hlen, Array.length_toList, hsize, Nat.add_zero]
      rw [Nat.sub_mul]; omega
    · rw [List.append_assoc, List.take_append, List.length_take, Array.length_toList, hsize, List.take_take]
      rw [show i * sz - min (i * sz + 0) (c * sz) = 0 from by omega, List.take_zero, List.append_nil, ← htake, List.take_take]
      congr 1
      omega
  rw [hbk, hbk2]
  rw [hbk] at hj
  exact ⟨_, hr, hfr, hC.callF j hj hfr (fun x hx => .inl hx) (fun x hx => by rw [List.mem_singleton] at hx; subst hx; exact lt_of_heap hnew), hown'⟩
theorem run_maxI {ts : Array TypeId} {ty : TypeId} {k : IntKind} {x y : Int} : (Builtin.max_ ts ty #[.int k x, .int k y]).run P w = .ok (.int k (max x y)) w := by
  rw [Lib.run_max_ints]
end
end Go.Tw
