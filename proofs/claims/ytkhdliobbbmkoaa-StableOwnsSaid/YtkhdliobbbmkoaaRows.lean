/-
  No cell of these rows narrows 'for every input' (looked for: loops, veiled, ifaces, maps, wideKeys, modest, calm, conditions, laid).
  DERIVED. THE GIVEN ROWS OF THIS SEAT. 6 by the template 'for every input the law returns true; each argument reads behind the call as it read before'; 0 by the template 'total and deterministic' (their statements: YtkhdliobbbmkoaaTotals.lean).
  GIVEN WITH THE SEED: the statements are not yours to turn. If you find one false, say at which input.
  Laid BY PROGRAM, IN A SANDBOX (cutbox-rows.mjs): the forced cells as the released guide's own fill.sh prints them over the translation 648060c079f8c138… (all of the seat's roots in one cut). By AI agents, Wed Nov 11 2026. No macro, syntax, notation, axiom, sorry.
-/
import Derived.Test.YtkhdliobbbmkoaaChecked
import GoSem.Claim
import GoSem.ClaimJoined
import GoSem.ClaimMapViews
import Derived.JoinedTies
import Derived.KernelRfl
namespace Go.Proofs.Ytkhdliobbbmkoaa
/- THE CELL 'sum', in the pinned program and in every row, IS THE sha256 OF THE DUMP (.gsa) THAT YtkhdliobbbmkoaaProg.lean LOADS. Nothing in Lean hashes anything: it is a label: what it is worth is what the hold of that sum in a sandbox is worth. -/
noncomputable def Try.pinned : Pinned := { name := "ytkhdliobbbmkoaa", sum := "648060c079f8c1386ed2f5bc77e4f14dc12f1766d0b1a8e2c3ba32efbb142b62", checked := Try.checked }
namespace Rows
def none {H : Type} : Left H := { results := [], args := [] }

/-- 'towpathlaw13.StableOwns': WHATEVER THE INPUT: true; the input reads as it did. -/
def stableOwnsSpec : ChangeSpec := { name := "stableOwns", fn := fun _ => fun
  | [d1, d2] => { results := [.lit (.bool true)], args := [d1, d2] }
  | _ => none }
def stableOwnsRow : OpenClaim := { program := "ytkhdliobbbmkoaa", sum := "648060c079f8c1386ed2f5bc77e4f14dc12f1766d0b1a8e2c3ba32efbb142b62", func := "towpath/towpathlaw13.StableOwns", spec := "stableOwns", inPlace := ["maps.clone"], apart := false }
def StableOwnsSaid : Prop := stableOwnsRow.holds Try.pinned (OpenSpec.ofChange stableOwnsSpec)

/-- ITS FALSE NEIGHBOUR: 'it returns false'. Refute it at one input. -/
def stableOwnsWrong : ChangeSpec := { name := "stableOwns", fn := fun _ => fun
  | [d1, d2] => { results := [.lit (.bool false)], args := [d1, d2] }
  | _ => none }
def StableOwnsWrongFalsely : Prop := stableOwnsRow.holds Try.pinned (OpenSpec.ofChange stableOwnsWrong)

/-- 'towpathlaw13.StableFull': WHATEVER THE INPUT: true; the input reads as it did. -/
def stableFullSpec : ChangeSpec := { name := "stableFull", fn := fun _ => fun
  | [d1, d2, d3] => { results := [.lit (.bool true)], args := [d1, d2, d3] }
  | _ => none }
def stableFullRow : OpenClaim := { program := "ytkhdliobbbmkoaa", sum := "648060c079f8c1386ed2f5bc77e4f14dc12f1766d0b1a8e2c3ba32efbb142b62", func := "towpath/towpathlaw13.StableFull", spec := "stableFull", inPlace := ["maps.clone"], unfollowed := true, recurses := true, apart := false }
def StableFullSaid : Prop := stableFullRow.holds Try.pinned (OpenSpec.ofChange stableFullSpec)

/-- ITS FALSE NEIGHBOUR: 'it returns false'. Refute it at one input. -/
def stableFullWrong : ChangeSpec := { name := "stableFull", fn := fun _ => fun
  | [d1, d2, d3] => { results := [.lit (.bool false)], args := [d1, d2, d3] }
  | _ => none }
def StableFullWrongFalsely : Prop := stableFullRow.holds Try.pinned (OpenSpec.ofChange stableFullWrong)

/-- 'towpathlaw13.StableTwo': WHATEVER THE INPUT: true; the input reads as it did. -/
def stableTwoSpec : ChangeSpec := { name := "stableTwo", fn := fun _ => fun
  | [d] => { results := [.lit (.bool true)], args := [d] }
  | _ => none }
def stableTwoRow : OpenClaim := { program := "ytkhdliobbbmkoaa", sum := "648060c079f8c1386ed2f5bc77e4f14dc12f1766d0b1a8e2c3ba32efbb142b62", func := "towpath/towpathlaw13.StableTwo", spec := "stableTwo", inPlace := ["maps.clone"], unfollowed := true, recurses := true, apart := false }
def StableTwoSaid : Prop := stableTwoRow.holds Try.pinned (OpenSpec.ofChange stableTwoSpec)

/-- ITS FALSE NEIGHBOUR: 'it returns false'. Refute it at one input. -/
def stableTwoWrong : ChangeSpec := { name := "stableTwo", fn := fun _ => fun
  | [d] => { results := [.lit (.bool false)], args := [d] }
  | _ => none }
def StableTwoWrongFalsely : Prop := stableTwoRow.holds Try.pinned (OpenSpec.ofChange stableTwoWrong)

/-- 'towpathlaw13.StablePlays': WHATEVER THE INPUT: true; the input reads as it did. -/
def stablePlaysSpec : ChangeSpec := { name := "stablePlays", fn := fun _ => fun
  | [d1, d2] => { results := [.lit (.bool true)], args := [d1, d2] }
  | _ => none }
def stablePlaysRow : OpenClaim := { program := "ytkhdliobbbmkoaa", sum := "648060c079f8c1386ed2f5bc77e4f14dc12f1766d0b1a8e2c3ba32efbb142b62", func := "towpath/towpathlaw13.StablePlays", spec := "stablePlays", inPlace := ["maps.clone"], unfollowed := true, recurses := true, apart := false }
def StablePlaysSaid : Prop := stablePlaysRow.holds Try.pinned (OpenSpec.ofChange stablePlaysSpec)

/-- ITS FALSE NEIGHBOUR: 'it returns false'. Refute it at one input. -/
def stablePlaysWrong : ChangeSpec := { name := "stablePlays", fn := fun _ => fun
  | [d1, d2] => { results := [.lit (.bool false)], args := [d1, d2] }
  | _ => none }
def StablePlaysWrongFalsely : Prop := stablePlaysRow.holds Try.pinned (OpenSpec.ofChange stablePlaysWrong)

/-- 'towpathlaw13.StableSynced': WHATEVER THE INPUT: true; the input reads as it did. -/
def stableSyncedSpec : ChangeSpec := { name := "stableSynced", fn := fun _ => fun
  | [d1, d2, d3] => { results := [.lit (.bool true)], args := [d1, d2, d3] }
  | _ => none }
def stableSyncedRow : OpenClaim := { program := "ytkhdliobbbmkoaa", sum := "648060c079f8c1386ed2f5bc77e4f14dc12f1766d0b1a8e2c3ba32efbb142b62", func := "towpath/towpathlaw13.StableSynced", spec := "stableSynced", inPlace := ["maps.clone"], unfollowed := true, recurses := true, apart := false }
def StableSyncedSaid : Prop := stableSyncedRow.holds Try.pinned (OpenSpec.ofChange stableSyncedSpec)

/-- ITS FALSE NEIGHBOUR: 'it returns false'. Refute it at one input. -/
def stableSyncedWrong : ChangeSpec := { name := "stableSynced", fn := fun _ => fun
  | [d1, d2, d3] => { results := [.lit (.bool false)], args := [d1, d2, d3] }
  | _ => none }
def StableSyncedWrongFalsely : Prop := stableSyncedRow.holds Try.pinned (OpenSpec.ofChange stableSyncedWrong)

/-- 'towpathlaw13.StableNone': WHATEVER THE INPUT: true; the input reads as it did. -/
def stableNoneSpec : ChangeSpec := { name := "stableNone", fn := fun _ => fun
  | [d1, d2] => { results := [.lit (.bool true)], args := [d1, d2] }
  | _ => none }
def stableNoneRow : OpenClaim := { program := "ytkhdliobbbmkoaa", sum := "648060c079f8c1386ed2f5bc77e4f14dc12f1766d0b1a8e2c3ba32efbb142b62", func := "towpath/towpathlaw13.StableNone", spec := "stableNone", inPlace := ["maps.clone"], unfollowed := true, recurses := true, apart := false }
def StableNoneSaid : Prop := stableNoneRow.holds Try.pinned (OpenSpec.ofChange stableNoneSpec)

/-- ITS FALSE NEIGHBOUR: 'it returns false'. Refute it at one input. -/
def stableNoneWrong : ChangeSpec := { name := "stableNone", fn := fun _ => fun
  | [d1, d2] => { results := [.lit (.bool false)], args := [d1, d2] }
  | _ => none }
def StableNoneWrongFalsely : Prop := stableNoneRow.holds Try.pinned (OpenSpec.ofChange stableNoneWrong)

/- THE SECOND FORM. 'bulk': how many values and letters a reading holds, each counted each time it is reached (what is shared counts as often as it is met; a slice's spare places count too). A statement '..UptoSaid' is the law's where the arguments, and the package variables that the reading takes, are together of bulk at most 1048576: NARROWER than '..Said'. Prove '..Said' where nothing that the law and all that it calls make is longer than what came in: it says more and counts as full. Else prove '..UptoSaid'. A law counts once. -/
mutual
def uptoBulk {H : Type} : DataW H → Nat
  | .lit (.string bytes) => bytes.length + 1
  | .lit _ => 1
  | .nil => 1
  | .ptr d => uptoBulk d + 1
  | .slice elems spare => uptoBulkAll elems + uptoBulkAll spare + 1
  | .agg parts => uptoBulkAll parts + 1
  | .iface _ d => uptoBulk d + 1
  | .map entries => uptoBulkEntries entries + 1
  | .held _ => 1
def uptoBulkAll {H : Type} : List (DataW H) → Nat
  | [] => 0
  | d :: r => uptoBulk d + uptoBulkAll r
def uptoBulkEntries {H : Type} : List (Lit × DataW H) → Nat
  | [] => 0
  | x :: r => uptoBulkEntry x + uptoBulkEntries r
def uptoBulkEntry {H : Type} : Lit × DataW H → Nat
  | (.string bytes, d) => bytes.length + uptoBulk d + 1
  | (_, d) => uptoBulk d + 1
 end
def uptoSmall : (H : Type) → List (DataW H) → Bool := fun _ ds => decide (uptoBulkAll ds ≤ 1048576)
def OpenSpec.upto (s : _root_.Go.ChangeSpec) : _root_.Go.OpenSpec := { _root_.Go.OpenSpec.ofChange s with cond := some uptoSmall }

/-- 'towpathlaw13.StableOwns', WHERE WHAT IT READS IS OF BULK AT MOST 1048576: true; the input reads as it did. -/
def stableOwnsUptoRow : OpenClaim := { program := "ytkhdliobbbmkoaa", sum := "648060c079f8c1386ed2f5bc77e4f14dc12f1766d0b1a8e2c3ba32efbb142b62", func := "towpath/towpathlaw13.StableOwns", spec := "stableOwns", inPlace := ["maps.clone"], apart := false, narrowed := true }
def StableOwnsUptoSaid : Prop := stableOwnsUptoRow.holds Try.pinned (OpenSpec.upto stableOwnsSpec)

/-- 'towpathlaw13.StableFull', WHERE WHAT IT READS IS OF BULK AT MOST 1048576: true; the input reads as it did. -/
def stableFullUptoRow : OpenClaim := { program := "ytkhdliobbbmkoaa", sum := "648060c079f8c1386ed2f5bc77e4f14dc12f1766d0b1a8e2c3ba32efbb142b62", func := "towpath/towpathlaw13.StableFull", spec := "stableFull", inPlace := ["maps.clone"], unfollowed := true, recurses := true, apart := false, narrowed := true }
def StableFullUptoSaid : Prop := stableFullUptoRow.holds Try.pinned (OpenSpec.upto stableFullSpec)

/-- 'towpathlaw13.StableTwo', WHERE WHAT IT READS IS OF BULK AT MOST 1048576: true; the input reads as it did. -/
def stableTwoUptoRow : OpenClaim := { program := "ytkhdliobbbmkoaa", sum := "648060c079f8c1386ed2f5bc77e4f14dc12f1766d0b1a8e2c3ba32efbb142b62", func := "towpath/towpathlaw13.StableTwo", spec := "stableTwo", inPlace := ["maps.clone"], unfollowed := true, recurses := true, apart := false, narrowed := true }
def StableTwoUptoSaid : Prop := stableTwoUptoRow.holds Try.pinned (OpenSpec.upto stableTwoSpec)

/-- 'towpathlaw13.StablePlays', WHERE WHAT IT READS IS OF BULK AT MOST 1048576: true; the input reads as it did. -/
def stablePlaysUptoRow : OpenClaim := { program := "ytkhdliobbbmkoaa", sum := "648060c079f8c1386ed2f5bc77e4f14dc12f1766d0b1a8e2c3ba32efbb142b62", func := "towpath/towpathlaw13.StablePlays", spec := "stablePlays", inPlace := ["maps.clone"], unfollowed := true, recurses := true, apart := false, narrowed := true }
def StablePlaysUptoSaid : Prop := stablePlaysUptoRow.holds Try.pinned (OpenSpec.upto stablePlaysSpec)

/-- 'towpathlaw13.StableSynced', WHERE WHAT IT READS IS OF BULK AT MOST 1048576: true; the input reads as it did. -/
def stableSyncedUptoRow : OpenClaim := { program := "ytkhdliobbbmkoaa", sum := "648060c079f8c1386ed2f5bc77e4f14dc12f1766d0b1a8e2c3ba32efbb142b62", func := "towpath/towpathlaw13.StableSynced", spec := "stableSynced", inPlace := ["maps.clone"], unfollowed := true, recurses := true, apart := false, narrowed := true }
def StableSyncedUptoSaid : Prop := stableSyncedUptoRow.holds Try.pinned (OpenSpec.upto stableSyncedSpec)

/-- 'towpathlaw13.StableNone', WHERE WHAT IT READS IS OF BULK AT MOST 1048576: true; the input reads as it did. -/
def stableNoneUptoRow : OpenClaim := { program := "ytkhdliobbbmkoaa", sum := "648060c079f8c1386ed2f5bc77e4f14dc12f1766d0b1a8e2c3ba32efbb142b62", func := "towpath/towpathlaw13.StableNone", spec := "stableNone", inPlace := ["maps.clone"], unfollowed := true, recurses := true, apart := false, narrowed := true }
def StableNoneUptoSaid : Prop := stableNoneUptoRow.holds Try.pinned (OpenSpec.upto stableNoneSpec)

end Rows
end Go.Proofs.Ytkhdliobbbmkoaa
