/-
  No cell of these rows narrows 'for every input' (looked for: loops, veiled, ifaces, maps, wideKeys, modest, calm, conditions, laid).
  DERIVED. THE GIVEN ROWS OF THIS SEAT. 7 by the template 'for every input the law returns true; each argument reads behind the call as it read before'; 0 by the template 'total and deterministic' (their statements: YtibkndhgeeoidaaTotals.lean).
  GIVEN WITH THE SEED: the statements are not yours to turn. If you find one false, say at which input.
  Laid BY PROGRAM, IN A SANDBOX (cutbox-rows.mjs): the forced cells as the released guide's own fill.sh prints them over the translation 18df85916fa73bf0… (all of the seat's roots in one cut). By AI agents, Wed Nov 11 2026. No macro, syntax, notation, axiom, sorry.
-/
import Derived.Test.YtibkndhgeeoidaaChecked
import GoSem.Claim
import GoSem.ClaimJoined
import GoSem.ClaimMapViews
import Derived.JoinedTies
import Derived.KernelRfl
namespace Go.Proofs.Ytibkndhgeeoidaa
/- THE CELL 'sum', in the pinned program and in every row, IS THE sha256 OF THE DUMP (.gsa) THAT YtibkndhgeeoidaaProg.lean LOADS. Nothing in Lean hashes anything: it is a label: what it is worth is what the hold of that sum in a sandbox is worth. -/
noncomputable def Try.pinned : Pinned := { name := "ytibkndhgeeoidaa", sum := "18df85916fa73bf0dd4db66eb38c5aa8f2f85e3a1de1372b2ea93d5b378127b4", checked := Try.checked }
namespace Rows
def none {H : Type} : Left H := { results := [], args := [] }

/-- 'towpathlaw09.RingHolds': WHATEVER THE INPUT: true; the input reads as it did. -/
def ringHoldsSpec : ChangeSpec := { name := "ringHolds", fn := fun _ => fun
  | [d] => { results := [.lit (.bool true)], args := [d] }
  | _ => none }
def ringHoldsRow : OpenClaim := { program := "ytibkndhgeeoidaa", sum := "18df85916fa73bf0dd4db66eb38c5aa8f2f85e3a1de1372b2ea93d5b378127b4", func := "towpath/towpathlaw09.RingHolds", spec := "ringHolds", unfollowed := true, recurses := true, apart := false }
def RingHoldsSaid : Prop := ringHoldsRow.holds Try.pinned (OpenSpec.ofChange ringHoldsSpec)

/-- ITS FALSE NEIGHBOUR: 'it returns false'. Refute it at one input. -/
def ringHoldsWrong : ChangeSpec := { name := "ringHolds", fn := fun _ => fun
  | [d] => { results := [.lit (.bool false)], args := [d] }
  | _ => none }
def RingHoldsWrongFalsely : Prop := ringHoldsRow.holds Try.pinned (OpenSpec.ofChange ringHoldsWrong)

/-- 'towpathlaw09.RingAll': WHATEVER THE INPUT: true; the input reads as it did. -/
def ringAllSpec : ChangeSpec := { name := "ringAll", fn := fun _ => fun
  | [d] => { results := [.lit (.bool true)], args := [d] }
  | _ => none }
def ringAllRow : OpenClaim := { program := "ytibkndhgeeoidaa", sum := "18df85916fa73bf0dd4db66eb38c5aa8f2f85e3a1de1372b2ea93d5b378127b4", func := "towpath/towpathlaw09.RingAll", spec := "ringAll", unfollowed := true, recurses := true, apart := false }
def RingAllSaid : Prop := ringAllRow.holds Try.pinned (OpenSpec.ofChange ringAllSpec)

/-- ITS FALSE NEIGHBOUR: 'it returns false'. Refute it at one input. -/
def ringAllWrong : ChangeSpec := { name := "ringAll", fn := fun _ => fun
  | [d] => { results := [.lit (.bool false)], args := [d] }
  | _ => none }
def RingAllWrongFalsely : Prop := ringAllRow.holds Try.pinned (OpenSpec.ofChange ringAllWrong)

/-- 'towpathlaw09.RingKeys': WHATEVER THE INPUT: true; the input reads as it did. -/
def ringKeysSpec : ChangeSpec := { name := "ringKeys", fn := fun _ => fun
  | [d] => { results := [.lit (.bool true)], args := [d] }
  | _ => none }
def ringKeysRow : OpenClaim := { program := "ytibkndhgeeoidaa", sum := "18df85916fa73bf0dd4db66eb38c5aa8f2f85e3a1de1372b2ea93d5b378127b4", func := "towpath/towpathlaw09.RingKeys", spec := "ringKeys", unfollowed := true, recurses := true, apart := false }
def RingKeysSaid : Prop := ringKeysRow.holds Try.pinned (OpenSpec.ofChange ringKeysSpec)

/-- ITS FALSE NEIGHBOUR: 'it returns false'. Refute it at one input. -/
def ringKeysWrong : ChangeSpec := { name := "ringKeys", fn := fun _ => fun
  | [d] => { results := [.lit (.bool false)], args := [d] }
  | _ => none }
def RingKeysWrongFalsely : Prop := ringKeysRow.holds Try.pinned (OpenSpec.ofChange ringKeysWrong)

/-- 'towpathlaw09.RingChooses': WHATEVER THE INPUT: true; the input reads as it did. -/
def ringChoosesSpec : ChangeSpec := { name := "ringChooses", fn := fun _ => fun
  | [d1, d2] => { results := [.lit (.bool true)], args := [d1, d2] }
  | _ => none }
def ringChoosesRow : OpenClaim := { program := "ytibkndhgeeoidaa", sum := "18df85916fa73bf0dd4db66eb38c5aa8f2f85e3a1de1372b2ea93d5b378127b4", func := "towpath/towpathlaw09.RingChooses", spec := "ringChooses", unfollowed := true, recurses := true, apart := false }
def RingChoosesSaid : Prop := ringChoosesRow.holds Try.pinned (OpenSpec.ofChange ringChoosesSpec)

/-- ITS FALSE NEIGHBOUR: 'it returns false'. Refute it at one input. -/
def ringChoosesWrong : ChangeSpec := { name := "ringChooses", fn := fun _ => fun
  | [d1, d2] => { results := [.lit (.bool false)], args := [d1, d2] }
  | _ => none }
def RingChoosesWrongFalsely : Prop := ringChoosesRow.holds Try.pinned (OpenSpec.ofChange ringChoosesWrong)

/-- 'towpathlaw09.RingLeaves': WHATEVER THE INPUT: true; the input reads as it did. -/
def ringLeavesSpec : ChangeSpec := { name := "ringLeaves", fn := fun _ => fun
  | [d1, d2] => { results := [.lit (.bool true)], args := [d1, d2] }
  | _ => none }
def ringLeavesRow : OpenClaim := { program := "ytibkndhgeeoidaa", sum := "18df85916fa73bf0dd4db66eb38c5aa8f2f85e3a1de1372b2ea93d5b378127b4", func := "towpath/towpathlaw09.RingLeaves", spec := "ringLeaves", unfollowed := true, recurses := true, apart := false }
def RingLeavesSaid : Prop := ringLeavesRow.holds Try.pinned (OpenSpec.ofChange ringLeavesSpec)

/-- ITS FALSE NEIGHBOUR: 'it returns false'. Refute it at one input. -/
def ringLeavesWrong : ChangeSpec := { name := "ringLeaves", fn := fun _ => fun
  | [d1, d2] => { results := [.lit (.bool false)], args := [d1, d2] }
  | _ => none }
def RingLeavesWrongFalsely : Prop := ringLeavesRow.holds Try.pinned (OpenSpec.ofChange ringLeavesWrong)

/-- 'towpathlaw09.RingChanges': WHATEVER THE INPUT: true; the input reads as it did. -/
def ringChangesSpec : ChangeSpec := { name := "ringChanges", fn := fun _ => fun
  | [d1, d2, d3] => { results := [.lit (.bool true)], args := [d1, d2, d3] }
  | _ => none }
def ringChangesRow : OpenClaim := { program := "ytibkndhgeeoidaa", sum := "18df85916fa73bf0dd4db66eb38c5aa8f2f85e3a1de1372b2ea93d5b378127b4", func := "towpath/towpathlaw09.RingChanges", spec := "ringChanges", unfollowed := true, recurses := true, apart := false }
def RingChangesSaid : Prop := ringChangesRow.holds Try.pinned (OpenSpec.ofChange ringChangesSpec)

/-- ITS FALSE NEIGHBOUR: 'it returns false'. Refute it at one input. -/
def ringChangesWrong : ChangeSpec := { name := "ringChanges", fn := fun _ => fun
  | [d1, d2, d3] => { results := [.lit (.bool false)], args := [d1, d2, d3] }
  | _ => none }
def RingChangesWrongFalsely : Prop := ringChangesRow.holds Try.pinned (OpenSpec.ofChange ringChangesWrong)

/-- 'towpathlaw09.RingNone': WHATEVER THE INPUT: true; the input reads as it did. -/
def ringNoneSpec : ChangeSpec := { name := "ringNone", fn := fun _ => fun
  | [d1, d2] => { results := [.lit (.bool true)], args := [d1, d2] }
  | _ => none }
def ringNoneRow : OpenClaim := { program := "ytibkndhgeeoidaa", sum := "18df85916fa73bf0dd4db66eb38c5aa8f2f85e3a1de1372b2ea93d5b378127b4", func := "towpath/towpathlaw09.RingNone", spec := "ringNone", unfollowed := true, recurses := true, apart := false }
def RingNoneSaid : Prop := ringNoneRow.holds Try.pinned (OpenSpec.ofChange ringNoneSpec)

/-- ITS FALSE NEIGHBOUR: 'it returns false'. Refute it at one input. -/
def ringNoneWrong : ChangeSpec := { name := "ringNone", fn := fun _ => fun
  | [d1, d2] => { results := [.lit (.bool false)], args := [d1, d2] }
  | _ => none }
def RingNoneWrongFalsely : Prop := ringNoneRow.holds Try.pinned (OpenSpec.ofChange ringNoneWrong)

/- THE SECOND FORM. 'bulk': how many values and letters a reading holds, each counted each time it is reached (what is shared counts as often as it is met; a slice's spare places count too). A statement '..UptoSaid' is the law's where the arguments, and the package variables that the reading takes, are together of bulk at most 1048576: NARROWER than '..Said'. Prove '..Said' where nothing that the law and all that it calls make is longer than what came in: it says more and counts as full. Else prove '..UptoSaid'. A law counts once. -/
mutual
def uptoBulk {H : Type} : DataW H → Nat
  | .lit (.string bytes) => bytes.length + 1
  | .lit _ => 1
  | .nil => 1
  | .ptr d => uptoBulk d + 1
  | .slice elems spare => uptoBulkAll elems + uptoBulkAll spare + 1
  | .agg parts => uptoBulkAll parts + 1
  | .iface _ d => uptoBulk d + 1
  | .map entries => uptoBulkEntries entries + 1
  | .held _ => 1
def uptoBulkAll {H : Type} : List (DataW H) → Nat
  | [] => 0
  | d :: r => uptoBulk d + uptoBulkAll r
def uptoBulkEntries {H : Type} : List (Lit × DataW H) → Nat
  | [] => 0
  | x :: r => uptoBulkEntry x + uptoBulkEntries r
def uptoBulkEntry {H : Type} : Lit × DataW H → Nat
  | (.string bytes, d) => bytes.length + uptoBulk d + 1
  | (_, d) => uptoBulk d + 1
 end
def uptoSmall : (H : Type) → List (DataW H) → Bool := fun _ ds => decide (uptoBulkAll ds ≤ 1048576)
def OpenSpec.upto (s : _root_.Go.ChangeSpec) : _root_.Go.OpenSpec := { _root_.Go.OpenSpec.ofChange s with cond := some uptoSmall }

/-- 'towpathlaw09.RingHolds', WHERE WHAT IT READS IS OF BULK AT MOST 1048576: true; the input reads as it did. -/
def ringHoldsUptoRow : OpenClaim := { program := "ytibkndhgeeoidaa", sum := "18df85916fa73bf0dd4db66eb38c5aa8f2f85e3a1de1372b2ea93d5b378127b4", func := "towpath/towpathlaw09.RingHolds", spec := "ringHolds", unfollowed := true, recurses := true, apart := false, narrowed := true }
def RingHoldsUptoSaid : Prop := ringHoldsUptoRow.holds Try.pinned (OpenSpec.upto ringHoldsSpec)

/-- 'towpathlaw09.RingAll', WHERE WHAT IT READS IS OF BULK AT MOST 1048576: true; the input reads as it did. -/
def ringAllUptoRow : OpenClaim := { program := "ytibkndhgeeoidaa", sum := "18df85916fa73bf0dd4db66eb38c5aa8f2f85e3a1de1372b2ea93d5b378127b4", func := "towpath/towpathlaw09.RingAll", spec := "ringAll", unfollowed := true, recurses := true, apart := false, narrowed := true }
def RingAllUptoSaid : Prop := ringAllUptoRow.holds Try.pinned (OpenSpec.upto ringAllSpec)

/-- 'towpathlaw09.RingKeys', WHERE WHAT IT READS IS OF BULK AT MOST 1048576: true; the input reads as it did. -/
def ringKeysUptoRow : OpenClaim := { program := "ytibkndhgeeoidaa", sum := "18df85916fa73bf0dd4db66eb38c5aa8f2f85e3a1de1372b2ea93d5b378127b4", func := "towpath/towpathlaw09.RingKeys", spec := "ringKeys", unfollowed := true, recurses := true, apart := false, narrowed := true }
def RingKeysUptoSaid : Prop := ringKeysUptoRow.holds Try.pinned (OpenSpec.upto ringKeysSpec)

/-- 'towpathlaw09.RingChooses', WHERE WHAT IT READS IS OF BULK AT MOST 1048576: true; the input reads as it did. -/
def ringChoosesUptoRow : OpenClaim := { program := "ytibkndhgeeoidaa", sum := "18df85916fa73bf0dd4db66eb38c5aa8f2f85e3a1de1372b2ea93d5b378127b4", func := "towpath/towpathlaw09.RingChooses", spec := "ringChooses", unfollowed := true, recurses := true, apart := false, narrowed := true }
def RingChoosesUptoSaid : Prop := ringChoosesUptoRow.holds Try.pinned (OpenSpec.upto ringChoosesSpec)

/-- 'towpathlaw09.RingLeaves', WHERE WHAT IT READS IS OF BULK AT MOST 1048576: true; the input reads as it did. -/
def ringLeavesUptoRow : OpenClaim := { program := "ytibkndhgeeoidaa", sum := "18df85916fa73bf0dd4db66eb38c5aa8f2f85e3a1de1372b2ea93d5b378127b4", func := "towpath/towpathlaw09.RingLeaves", spec := "ringLeaves", unfollowed := true, recurses := true, apart := false, narrowed := true }
def RingLeavesUptoSaid : Prop := ringLeavesUptoRow.holds Try.pinned (OpenSpec.upto ringLeavesSpec)

/-- 'towpathlaw09.RingChanges', WHERE WHAT IT READS IS OF BULK AT MOST 1048576: true; the input reads as it did. -/
def ringChangesUptoRow : OpenClaim := { program := "ytibkndhgeeoidaa", sum := "18df85916fa73bf0dd4db66eb38c5aa8f2f85e3a1de1372b2ea93d5b378127b4", func := "towpath/towpathlaw09.RingChanges", spec := "ringChanges", unfollowed := true, recurses := true, apart := false, narrowed := true }
def RingChangesUptoSaid : Prop := ringChangesUptoRow.holds Try.pinned (OpenSpec.upto ringChangesSpec)

/-- 'towpathlaw09.RingNone', WHERE WHAT IT READS IS OF BULK AT MOST 1048576: true; the input reads as it did. -/
def ringNoneUptoRow : OpenClaim := { program := "ytibkndhgeeoidaa", sum := "18df85916fa73bf0dd4db66eb38c5aa8f2f85e3a1de1372b2ea93d5b378127b4", func := "towpath/towpathlaw09.RingNone", spec := "ringNone", unfollowed := true, recurses := true, apart := false, narrowed := true }
def RingNoneUptoSaid : Prop := ringNoneUptoRow.holds Try.pinned (OpenSpec.upto ringNoneSpec)

end Rows
end Go.Proofs.Ytibkndhgeeoidaa
