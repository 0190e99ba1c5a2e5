/- Contracts of functions of the program, each proved by a walk through its code; conditions stand in the statements. -/
import Derived.Test.YtkhdliobbbmkoaaSbH13
namespace Go.Proofs.Ytkhdliobbbmkoaa
set_option linter.unusedSimpArgs false
set_option linter.unusedVariables false
set_option linter.unusedSectionVars false
open Go Go.RowKit Go.Tw
set_option linter.unusedVariables false
set_option maxRecDepth 20000
def putS (N : Ct) (size : Int) (key : ByteArray) (xs : List Int) : Ct := if putE N size key xs.length = 0 then putL N key xs else N
abbrev badK (k : ByteArray) : Prop := k.size = 0 ∨ 64 < k.size
section
variable {a b : ByteArray} {x y : List Int}
end
def dropN : Ct → List ByteArray → Nat
  | _, [] => 0
  | N, k :: r => (if (lookL N k).isSome then 1 else 0) + dropN (delL N k) r
/-- what a store shows, in the order of its keys -/
def listL (N : Ct) : Ct := (keysL N).map fun k => (k, (lookL N k).getD [])
structure SRow where
  a : Option Addr
  n : Nat
  c : Nat
  ks : List ByteArray
structure StOp where
  kind : Int
  key : ByteArray
  more : SRow
  row : BRow
  cut : Int
def cellO (o : StOp) : List Value := [.int .i64 o.kind, .string o.key, .slice o.more.a o.more.n o.more.c, .slice o.row.a o.row.n o.row.c, .int .i64 o.cut]
structure opAt (w : World) (o : StOp) : Prop where
  row : rowAt w o.row
  more : Rd w 1 Go.Tw.encS o.more.a o.more.ks
  mlen : o.more.ks.length = o.more.n
  nlen : o.more.n ≤ 9223372036854775807
  rlen : o.row.n ≤ 9223372036854775807
  klen : o.key.size ≤ 9223372036854775807
  cutb : -9223372036854775808 ≤ o.cut ∧ o.cut ≤ 9223372036854775807
  kindb : -9223372036854775808 ≤ o.kind ∧ o.kind ≤ 9223372036854775807
def cellP (p : ByteArray × BRow) : List Value := [.string p.1, .slice p.2.a p.2.n p.2.c]
def rowsIn (w : World) (R : List Nat) (ps : Mt) : Prop := rowsAt w ps ∧ ∀ x ∈ rfoot ps, x ∈ R
theorem Put_any (F : List Nat) (p : Nat) (N Y : Ct) (size : Int) (key : ByteArray) (A : Option Addr) (c : Nat) (ps : List BRow) (xs : List Int) (w : World) (ht : stAt w F p N Y size) (hps : Rd w 1 cellB A ps) (hr : ∀ r ∈ ps, rowAt w r) (hpl : ps.length < 2 ^ 60) (hc : catL ps = xs) : Calls Try.prog 12 #[.pointer (some ⟨p, 0, none⟩), .string key, .slice A ps.length c] w fun e w' => ∃ F2, e = .returned (errV 38 (putE N size key xs.length)) ∧ Fr w w' F ∧ stAt w' F2 p (putS N size key xs) Y size ∧ ∀ x ∈ F2, x ∈ F ∨ w.heap.size ≤ x := by
  subst hc
  exact Put_ct F p N Y size key A c ps w ht hps hr hpl
end Go.Proofs.Ytkhdliobbbmkoaa
