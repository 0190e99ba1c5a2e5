/-
  No cell of these rows narrows 'for every input' (looked for: loops, veiled, ifaces, maps, wideKeys, modest, calm, conditions, laid).
  DERIVED. THE GIVEN ROWS OF THIS SEAT. 6 by the template 'for every input the law returns true; each argument reads behind the call as it read before'; 0 by the template 'total and deterministic' (their statements: YtkafccgbagbncaaTotals.lean).
  GIVEN WITH THE SEED: the statements are not yours to turn. If you find one false, say at which input.
  Laid BY PROGRAM, IN A SANDBOX (cutbox-rows.mjs): the forced cells as the released guide's own fill.sh prints them over the translation 399851489f1c6368… (all of the seat's roots in one cut). By AI agents, Wed Nov 11 2026. No macro, syntax, notation, axiom, sorry.
-/
import Derived.Test.YtkafccgbagbncaaChecked
import GoSem.Claim
import GoSem.ClaimJoined
import GoSem.ClaimMapViews
import Derived.JoinedTies
import Derived.KernelRfl
namespace Go.Proofs.Ytkafccgbagbncaa
/- THE CELL 'sum', in the pinned program and in every row, IS THE sha256 OF THE DUMP (.gsa) THAT YtkafccgbagbncaaProg.lean LOADS. Nothing in Lean hashes anything: it is a label: what it is worth is what the hold of that sum in a sandbox is worth. -/
noncomputable def Try.pinned : Pinned := { name := "ytkafccgbagbncaa", sum := "399851489f1c6368632160396b0affdeb25246e992fc1a030d1df4358738bbcd", checked := Try.checked }
namespace Rows
def none {H : Type} : Left H := { results := [], args := [] }

/-- 'towpathlaw10.WheelOnce': WHATEVER THE INPUT: true; the input reads as it did. -/
def wheelOnceSpec : ChangeSpec := { name := "wheelOnce", fn := fun _ => fun
  | [d1, d2, d3] => { results := [.lit (.bool true)], args := [d1, d2, d3] }
  | _ => none }
def wheelOnceRow : OpenClaim := { program := "ytkafccgbagbncaa", sum := "399851489f1c6368632160396b0affdeb25246e992fc1a030d1df4358738bbcd", func := "towpath/towpathlaw10.WheelOnce", spec := "wheelOnce", unfollowed := true, recurses := true, apart := false }
def WheelOnceSaid : Prop := wheelOnceRow.holds Try.pinned (OpenSpec.ofChange wheelOnceSpec)

/-- ITS FALSE NEIGHBOUR: 'it returns false'. Refute it at one input. -/
def wheelOnceWrong : ChangeSpec := { name := "wheelOnce", fn := fun _ => fun
  | [d1, d2, d3] => { results := [.lit (.bool false)], args := [d1, d2, d3] }
  | _ => none }
def WheelOnceWrongFalsely : Prop := wheelOnceRow.holds Try.pinned (OpenSpec.ofChange wheelOnceWrong)

/-- 'towpathlaw10.WheelSlots': WHATEVER THE INPUT: true; the input reads as it did. -/
def wheelSlotsSpec : ChangeSpec := { name := "wheelSlots", fn := fun _ => fun
  | [d1, d2, d3] => { results := [.lit (.bool true)], args := [d1, d2, d3] }
  | _ => none }
def wheelSlotsRow : OpenClaim := { program := "ytkafccgbagbncaa", sum := "399851489f1c6368632160396b0affdeb25246e992fc1a030d1df4358738bbcd", func := "towpath/towpathlaw10.WheelSlots", spec := "wheelSlots", unfollowed := true, recurses := true, apart := false }
def WheelSlotsSaid : Prop := wheelSlotsRow.holds Try.pinned (OpenSpec.ofChange wheelSlotsSpec)

/-- ITS FALSE NEIGHBOUR: 'it returns false'. Refute it at one input. -/
def wheelSlotsWrong : ChangeSpec := { name := "wheelSlots", fn := fun _ => fun
  | [d1, d2, d3] => { results := [.lit (.bool false)], args := [d1, d2, d3] }
  | _ => none }
def WheelSlotsWrongFalsely : Prop := wheelSlotsRow.holds Try.pinned (OpenSpec.ofChange wheelSlotsWrong)

/-- 'towpathlaw10.WheelNext': WHATEVER THE INPUT: true; the input reads as it did. -/
def wheelNextSpec : ChangeSpec := { name := "wheelNext", fn := fun _ => fun
  | [d1, d2, d3] => { results := [.lit (.bool true)], args := [d1, d2, d3] }
  | _ => none }
def wheelNextRow : OpenClaim := { program := "ytkafccgbagbncaa", sum := "399851489f1c6368632160396b0affdeb25246e992fc1a030d1df4358738bbcd", func := "towpath/towpathlaw10.WheelNext", spec := "wheelNext", unfollowed := true, recurses := true, apart := false }
def WheelNextSaid : Prop := wheelNextRow.holds Try.pinned (OpenSpec.ofChange wheelNextSpec)

/-- ITS FALSE NEIGHBOUR: 'it returns false'. Refute it at one input. -/
def wheelNextWrong : ChangeSpec := { name := "wheelNext", fn := fun _ => fun
  | [d1, d2, d3] => { results := [.lit (.bool false)], args := [d1, d2, d3] }
  | _ => none }
def WheelNextWrongFalsely : Prop := wheelNextRow.holds Try.pinned (OpenSpec.ofChange wheelNextWrong)

/-- 'towpathlaw10.WheelPlays': WHATEVER THE INPUT: true; the input reads as it did. -/
def wheelPlaysSpec : ChangeSpec := { name := "wheelPlays", fn := fun _ => fun
  | [d1, d2] => { results := [.lit (.bool true)], args := [d1, d2] }
  | _ => none }
def wheelPlaysRow : OpenClaim := { program := "ytkafccgbagbncaa", sum := "399851489f1c6368632160396b0affdeb25246e992fc1a030d1df4358738bbcd", func := "towpath/towpathlaw10.WheelPlays", spec := "wheelPlays", unfollowed := true, recurses := true, apart := false }
def WheelPlaysSaid : Prop := wheelPlaysRow.holds Try.pinned (OpenSpec.ofChange wheelPlaysSpec)

/-- ITS FALSE NEIGHBOUR: 'it returns false'. Refute it at one input. -/
def wheelPlaysWrong : ChangeSpec := { name := "wheelPlays", fn := fun _ => fun
  | [d1, d2] => { results := [.lit (.bool false)], args := [d1, d2] }
  | _ => none }
def WheelPlaysWrongFalsely : Prop := wheelPlaysRow.holds Try.pinned (OpenSpec.ofChange wheelPlaysWrong)

/-- 'towpathlaw10.WheelGone': WHATEVER THE INPUT: true; the input reads as it did. -/
def wheelGoneSpec : ChangeSpec := { name := "wheelGone", fn := fun _ => fun
  | [d] => { results := [.lit (.bool true)], args := [d] }
  | _ => none }
def wheelGoneRow : OpenClaim := { program := "ytkafccgbagbncaa", sum := "399851489f1c6368632160396b0affdeb25246e992fc1a030d1df4358738bbcd", func := "towpath/towpathlaw10.WheelGone", spec := "wheelGone", unfollowed := true, recurses := true, apart := false }
def WheelGoneSaid : Prop := wheelGoneRow.holds Try.pinned (OpenSpec.ofChange wheelGoneSpec)

/-- ITS FALSE NEIGHBOUR: 'it returns false'. Refute it at one input. -/
def wheelGoneWrong : ChangeSpec := { name := "wheelGone", fn := fun _ => fun
  | [d] => { results := [.lit (.bool false)], args := [d] }
  | _ => none }
def WheelGoneWrongFalsely : Prop := wheelGoneRow.holds Try.pinned (OpenSpec.ofChange wheelGoneWrong)

/-- 'towpathlaw10.WheelNone': WHATEVER THE INPUT: true; the input reads as it did. -/
def wheelNoneSpec : ChangeSpec := { name := "wheelNone", fn := fun _ => fun
  | [d1, d2] => { results := [.lit (.bool true)], args := [d1, d2] }
  | _ => none }
def wheelNoneRow : OpenClaim := { program := "ytkafccgbagbncaa", sum := "399851489f1c6368632160396b0affdeb25246e992fc1a030d1df4358738bbcd", func := "towpath/towpathlaw10.WheelNone", spec := "wheelNone", unfollowed := true, recurses := true, apart := false }
def WheelNoneSaid : Prop := wheelNoneRow.holds Try.pinned (OpenSpec.ofChange wheelNoneSpec)

/-- ITS FALSE NEIGHBOUR: 'it returns false'. Refute it at one input. -/
def wheelNoneWrong : ChangeSpec := { name := "wheelNone", fn := fun _ => fun
  | [d1, d2] => { results := [.lit (.bool false)], args := [d1, d2] }
  | _ => none }
def WheelNoneWrongFalsely : Prop := wheelNoneRow.holds Try.pinned (OpenSpec.ofChange wheelNoneWrong)

/- THE SECOND FORM. 'bulk': how many values and letters a reading holds, each counted each time it is reached (what is shared counts as often as it is met; a slice's spare places count too). A statement '..UptoSaid' is the law's where the arguments, and the package variables that the reading takes, are together of bulk at most 1048576: NARROWER than '..Said'. Prove '..Said' where nothing that the law and all that it calls make is longer than what came in: it says more and counts as full. Else prove '..UptoSaid'. A law counts once. -/
mutual
def uptoBulk {H : Type} : DataW H → Nat
  | .lit (.string bytes) => bytes.length + 1
  | .lit _ => 1
  | .nil => 1
  | .ptr d => uptoBulk d + 1
  | .slice elems spare => uptoBulkAll elems + uptoBulkAll spare + 1
  | .agg parts => uptoBulkAll parts + 1
  | .iface _ d => uptoBulk d + 1
  | .map entries => uptoBulkEntries entries + 1
  | .held _ => 1
def uptoBulkAll {H : Type} : List (DataW H) → Nat
  | [] => 0
  | d :: r => uptoBulk d + uptoBulkAll r
def uptoBulkEntries {H : Type} : List (Lit × DataW H) → Nat
  | [] => 0
  | x :: r => uptoBulkEntry x + uptoBulkEntries r
def uptoBulkEntry {H : Type} : Lit × DataW H → Nat
  | (.string bytes, d) => bytes.length + uptoBulk d + 1
  | (_, d) => uptoBulk d + 1
 end
def uptoSmall : (H : Type) → List (DataW H) → Bool := fun _ ds => decide (uptoBulkAll ds ≤ 1048576)
def OpenSpec.upto (s : _root_.Go.ChangeSpec) : _root_.Go.OpenSpec := { _root_.Go.OpenSpec.ofChange s with cond := some uptoSmall }

/-- 'towpathlaw10.WheelOnce', WHERE WHAT IT READS IS OF BULK AT MOST 1048576: true; the input reads as it did. -/
def wheelOnceUptoRow : OpenClaim := { program := "ytkafccgbagbncaa", sum := "399851489f1c6368632160396b0affdeb25246e992fc1a030d1df4358738bbcd", func := "towpath/towpathlaw10.WheelOnce", spec := "wheelOnce", unfollowed := true, recurses := true, apart := false, narrowed := true }
def WheelOnceUptoSaid : Prop := wheelOnceUptoRow.holds Try.pinned (OpenSpec.upto wheelOnceSpec)

/-- 'towpathlaw10.WheelSlots', WHERE WHAT IT READS IS OF BULK AT MOST 1048576: true; the input reads as it did. -/
def wheelSlotsUptoRow : OpenClaim := { program := "ytkafccgbagbncaa", sum := "399851489f1c6368632160396b0affdeb25246e992fc1a030d1df4358738bbcd", func := "towpath/towpathlaw10.WheelSlots", spec := "wheelSlots", unfollowed := true, recurses := true, apart := false, narrowed := true }
def WheelSlotsUptoSaid : Prop := wheelSlotsUptoRow.holds Try.pinned (OpenSpec.upto wheelSlotsSpec)

/-- 'towpathlaw10.WheelNext', WHERE WHAT IT READS IS OF BULK AT MOST 1048576: true; the input reads as it did. -/
def wheelNextUptoRow : OpenClaim := { program := "ytkafccgbagbncaa", sum := "399851489f1c6368632160396b0affdeb25246e992fc1a030d1df4358738bbcd", func := "towpath/towpathlaw10.WheelNext", spec := "wheelNext", unfollowed := true, recurses := true, apart := false, narrowed := true }
def WheelNextUptoSaid : Prop := wheelNextUptoRow.holds Try.pinned (OpenSpec.upto wheelNextSpec)

/-- 'towpathlaw10.WheelPlays', WHERE WHAT IT READS IS OF BULK AT MOST 1048576: true; the input reads as it did. -/
def wheelPlaysUptoRow : OpenClaim := { program := "ytkafccgbagbncaa", sum := "399851489f1c6368632160396b0affdeb25246e992fc1a030d1df4358738bbcd", func := "towpath/towpathlaw10.WheelPlays", spec := "wheelPlays", unfollowed := true, recurses := true, apart := false, narrowed := true }
def WheelPlaysUptoSaid : Prop := wheelPlaysUptoRow.holds Try.pinned (OpenSpec.upto wheelPlaysSpec)

/-- 'towpathlaw10.WheelGone', WHERE WHAT IT READS IS OF BULK AT MOST 1048576: true; the input reads as it did. -/
def wheelGoneUptoRow : OpenClaim := { program := "ytkafccgbagbncaa", sum := "399851489f1c6368632160396b0affdeb25246e992fc1a030d1df4358738bbcd", func := "towpath/towpathlaw10.WheelGone", spec := "wheelGone", unfollowed := true, recurses := true, apart := false, narrowed := true }
def WheelGoneUptoSaid : Prop := wheelGoneUptoRow.holds Try.pinned (OpenSpec.upto wheelGoneSpec)

/-- 'towpathlaw10.WheelNone', WHERE WHAT IT READS IS OF BULK AT MOST 1048576: true; the input reads as it did. -/
def wheelNoneUptoRow : OpenClaim := { program := "ytkafccgbagbncaa", sum := "399851489f1c6368632160396b0affdeb25246e992fc1a030d1df4358738bbcd", func := "towpath/towpathlaw10.WheelNone", spec := "wheelNone", unfollowed := true, recurses := true, apart := false, narrowed := true }
def WheelNoneUptoSaid : Prop := wheelNoneUptoRow.holds Try.pinned (OpenSpec.upto wheelNoneSpec)

end Rows
end Go.Proofs.Ytkafccgbagbncaa
