/- Contracts of functions of the program, each proved by a walk through its code; conditions stand in the statements. -/
import Derived.Test.YtibkndhgeeoidaaRgQ
namespace Go.Proofs.Ytibkndhgeeoidaa
set_option linter.unusedSimpArgs false
set_option linter.unusedVariables false
set_option linter.unusedSectionVars false
open Go Go.RowKit Go.Tw
set_option linter.unusedVariables false
set_option maxRecDepth 20000
/-! ### the owners of a key are all members, each once -/
def allP (key per : Int) (M : List Int) : List Int := uqF (rotM key (ringP per M))
theorem good_len {per : Int} {M : List Int} (h : goodR per M = 0) : M.length ≤ 64 := (good0 h).2.1
theorem own_take (key per n : Int) (M : List Int) : ownersP key n (ringP per M) = (allP key per M).take n.toNat := by
  unfold ownersP allP; split
  · rw [show n.toNat = 0 by omega, List.take_zero]
  · rfl
/-! without a member -/
theorem good_out {per : Int} {K M : List Int} (h : goodR per M = 0) : goodR per (outK K (sortI M)) = 0 := by
  obtain ⟨h1, h2, h3, h4⟩ := good0 h
  refine good_0 h1 ⟨?_, fun m hm => ?_, ?_⟩
  · have : (outK K (sortI M)).length ≤ (sortI M).length := List.length_filter_le _ _
    rw [sortI_len] at this; omega
  · exact h3 m ((sortI_perm M).mem_iff.1 (List.mem_filter.1 hm).1)
  · exact List.Nodup.sublist List.filter_sublist ((sortI_perm M).nodup_iff.2 h4)
theorem With_n (G : List Nat) (p : Nat) (per : Int) (AP : Option Addr) (cP : Nat) (pts : List (Int × Int)) (AM : Option Addr) (cM : Nat) (mem : List Int) (A : Option Addr) (n c : Nat) (xs : List Int) (w : World) (hR : RingR w G p per AP cP pts AM cM mem) (hml : mem.length ≤ 4096) (hr : Rd w 1 (Go.Tw.encI .i64) A xs) (hn : xs.length = n) (hl : n ≤ 1099511623680) : Calls Try.prog 26 #[.pointer (some ⟨p, 0, none⟩), .slice A n c] w fun e w' => ∃ a b, e = .returned (.tuple #[a, b]) ∧ Fr w w' [] ∧ newR w' w.heap.size per (mem ++ xs) a b := by subst hn; exact With_ct G p per AP cP pts AM cM mem A c xs w hR hml hr hl
theorem Without_n (G : List Nat) (p : Nat) (per : Int) (AP : Option Addr) (cP : Nat) (pts : List (Int × Int)) (AM : Option Addr) (cM : Nat) (mem : List Int) (A : Option Addr) (n c : Nat) (xs : List Int) (w : World) (hR : RingR w G p per AP cP pts AM cM mem) (hml : mem.length ≤ 4096) (hr : Rd w 1 (Go.Tw.encI .i64) A xs) (hn : xs.length = n) (hl : n ≤ 1099511623680) : Calls Try.prog 23 #[.pointer (some ⟨p, 0, none⟩), .slice A n c] w fun e w' => ∃ a b, e = .returned (.tuple #[a, b]) ∧ Fr w w' [] ∧ newR w' w.heap.size per (outK xs mem) a b := by subst hn; exact Without_ct G p per AP cP pts AM cM mem A c xs w hR hml hr hl
end Go.Proofs.Ytibkndhgeeoidaa
