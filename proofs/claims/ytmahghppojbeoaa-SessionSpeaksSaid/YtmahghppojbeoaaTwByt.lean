/- Laws on slices of bytes as strings, on a copied map, on objects of several tracked blocks. Each holds without conditions beyond those that stand in it. -/
import Derived.Test.YtmahghppojbeoaaTwAny
import Derived.Laws.BytesArg
import Derived.Laws.Externs
import Derived.Laws.Strings
namespace Go.Tw
set_option linter.unusedSimpArgs false
set_option linter.unusedVariables false
set_option linter.unusedSectionVars false
open Go Go.RowKit
section
variable {P : Program} {w w' w0 : World} {F0 : List Nat} {M : List (Nat × Obj)} {Fs : List (List Nat)}
theorem run_bytes_str {src e dst : TypeId} (hs : P.underlying src = some (.slice e)) (he : P.underlying e = some (.int .u8)) (hd : P.underlying dst = some .string) {A : Option Addr} {n c : Nat} {xs : List Int} (hr : Rd w 1 (encI .u8) A xs) (hn : xs.length = n) :
    (convert src dst (.slice A n c)).run P w = .ok (.string (strOfNums xs)) w := by
  subst hn
  cases xs with
  | nil =>
    cases A with
    | none => rw [run_convert_bytes_nil w src e hs he _ _ dst hd]; rfl
    | some a =>
      rw [run_convert_bytes_string w src dst e _ _ c hs he hd]
      have hl : (loadCells a 0).run P w = .ok (([] : List Int).map (Value.int .u8)).toArray w := run_loadCells_list (P := P) w a [] (by intro j u h; cases h)
      exact (run_bytesToString (P := P) w a 0 c [] hl).trans rfl
  | cons x r =>
    obtain ⟨b, off, rfl, _⟩ := hr.at_ 0 x rfl
    refine run_convert_bytes_arg w src e hs he b off _ c (x :: r) rfl (fun i hi => ?_) dst hd
    obtain ⟨y, hy⟩ := get_some hi
    have := hr.cell rfl hy 0 (.int .u8 y) rfl
    simpa [List.getD, hy] using this
theorem str_eql (a b : ByteArray) : (a.toList == b.toList) = decide (a = b) := by
  rw [ByteArray.toList_eq, ByteArray.toList_eq]
  by_cases h : a = b
  · simp [h]
  · rw [decide_eq_false h]
    refine beq_eq_false_iff_ne.2 fun q => h ?_
    cases a; cases b
    congr 1
    exact Array.toList_inj.1 q
end
end Go.Tw
