/- The walk's own words: trailing zeros by the table of math/bits. Over any program. -/
import Derived.Test.YtfligklljkcbfaaGreatDoorTwEq
namespace Go.Tw
set_option linter.unusedSimpArgs false
set_option linter.unusedVariables false
set_option linter.unusedSectionVars false
open Go
def dbTab : List Int := [0, 1, 56, 2, 57, 49, 28, 3, 61, 58, 42, 50, 38, 29, 17, 4, 62, 47, 59, 36, 45, 43, 51, 22, 53, 39, 33, 30, 24, 18, 12, 5, 63, 55, 48, 27, 60, 41, 37, 16, 46, 35, 44, 21, 52, 32, 23, 11, 54, 26, 40, 15, 34, 20, 31, 10, 25, 14, 19, 9, 13, 8, 7, 6]
/-- the least bit that is set, 64 if none -/
def tz (X : BitVec 64) : Nat := ((List.range 64).find? (fun i => X.getLsbD i)).getD 64
theorem tz_spec {X : BitVec 64} (h : X ≠ 0) : tz X < 64 ∧ X.getLsbD (tz X) = true ∧ ∀ i, i < tz X → X.getLsbD i = false := by
  unfold tz
  cases hf : (List.range 64).find? (fun i => X.getLsbD i) with
  | none =>
    exfalso
    rw [List.find?_eq_none] at hf
    apply h
    apply BitVec.eq_of_getLsbD_eq
    intro i hi
    have := hf i (by simpa using hi)
    simpa using this
  | some k =>
    rw [List.find?_range_eq_some] at hf
    simp at hf
    simp only [Option.getD_some]
    refine ⟨hf.2.1, hf.1, fun i hi => ?_⟩
    simpa using hf.2.2 i hi
theorem and_neg {X : BitVec 64} (h : X ≠ 0) : X &&& -X = BitVec.twoPow 64 (tz X) := by
  obtain ⟨h1, h2, h3⟩ := tz_spec h
  apply BitVec.eq_of_getLsbD_eq
  intro i hi
  rw [BitVec.getLsbD_and, BitVec.getLsbD_neg, BitVec.getLsbD_twoPow]
  rcases Nat.lt_trichotomy i (tz X) with hlt | rfl | hgt
  · simp [h3 i hlt]; omega
  · have : ¬ ∃ j, j < tz X ∧ X.getLsbD j = true := fun ⟨j, hj, hx⟩ => by rw [h3 j hj] at hx; cases hx
    simp [h2, h1, this]
  · have : ∃ j, j < i ∧ X.getLsbD j = true := ⟨tz X, hgt, h2⟩
    simp [hi, this]; omega
theorem db_key : ∀ k : Fin 64, dbTab[(IntKind.u64.wrap ((2 : Int) ^ k.val * 285870213051353865) / 288230376151711744).toNat]? = some (k.val : Int) := by decide +kernel
theorem tz_tab {X : BitVec 64} (h : X ≠ 0) : dbTab[(IntKind.u64.wrap (((X &&& -X).toNat : Int) * 285870213051353865) / 288230376151711744).toNat]? = some (tz X : Int) := by
  have h1 := (tz_spec h).1
  have h2 : ((X &&& -X).toNat : Int) = (2 : Int) ^ (tz X) := by
    rw [and_neg h, BitVec.toNat_twoPow, Nat.mod_eq_of_lt (Nat.pow_lt_pow_right (by decide) h1)]; simp
  rw [h2]
  exact db_key ⟨tz X, h1⟩
theorem and_neg_int (x : Int) (h0 : 0 ≤ x) (h1 : x ≤ 18446744073709551615) : Go.bits .and .u64 x (IntKind.u64.wrap (-x)) = ((BitVec.ofInt 64 x &&& -(BitVec.ofInt 64 x)).toNat : Int) := by
  show IntKind.u64.wrap ((BitVec.ofInt 64 x &&& BitVec.ofInt 64 (IntKind.u64.wrap (-x))).toNat : Int) = _
  have h2 : BitVec.ofInt 64 (IntKind.u64.wrap (-x)) = -(BitVec.ofInt 64 x) := by
    rw [← BitVec.ofInt_neg]
    apply BitVec.eq_of_toInt_eq
    simp only [BitVec.toInt_ofInt, IntKind.wrap_u64]
    simp [Int.bmod_def]
  rw [h2, wrap_in_u64 _ (by omega) (by have := (BitVec.ofInt 64 x &&& -(BitVec.ofInt 64 x)).isLt; omega)]
theorem tz_int (x : Int) (h0 : 0 ≤ x) (h1 : x ≤ 18446744073709551615) (hx : ¬ x = 0) : dbTab[(IntKind.u64.wrap (Go.bits .and .u64 x (IntKind.u64.wrap (0 - x)) * 285870213051353865) / 288230376151711744).toNat]? = some (tz (BitVec.ofInt 64 x) : Int) := by
  rw [Int.zero_sub, and_neg_int x h0 h1]
  refine tz_tab fun h => hx ?_
  have h2 : (BitVec.ofInt 64 x).toNat = 0 := by rw [h]; rfl
  rw [BitVec.toNat_ofInt] at h2
  omega
theorem tz_le (X : BitVec 64) : tz X ≤ 64 := by
  by_cases h : X = 0
  · subst h; decide
  · exact Nat.le_of_lt (tz_spec h).1
theorem tz_zero : tz 0 = 64 := by decide
end Go.Tw
