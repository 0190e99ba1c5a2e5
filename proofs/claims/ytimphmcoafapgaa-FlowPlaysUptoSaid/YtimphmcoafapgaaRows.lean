/-
  No cell of these rows narrows 'for every input' (looked for: loops, veiled, ifaces, maps, wideKeys, modest, calm, conditions, laid).
  DERIVED. THE GIVEN ROWS OF THIS SEAT. 6 by the template 'for every input the law returns true; each argument reads behind the call as it read before'; 0 by the template 'total and deterministic' (their statements: YtimphmcoafapgaaTotals.lean).
  GIVEN WITH THE SEED: the statements are not yours to turn. If you find one false, say at which input.
  Laid BY PROGRAM, IN A SANDBOX (cutbox-rows.mjs): the forced cells as the released guide's own fill.sh prints them over the translation d8493066dcab6596… (all of the seat's roots in one cut). By AI agents, Wed Nov 11 2026. No macro, syntax, notation, axiom, sorry.
-/
import Derived.Test.YtimphmcoafapgaaChecked
import GoSem.Claim
import GoSem.ClaimJoined
import GoSem.ClaimMapViews
import Derived.JoinedTies
import Derived.KernelRfl
namespace Go.Proofs.Ytimphmcoafapgaa
/- THE CELL 'sum', in the pinned program and in every row, IS THE sha256 OF THE DUMP (.gsa) THAT YtimphmcoafapgaaProg.lean LOADS. Nothing in Lean hashes anything: it is a label: what it is worth is what the hold of that sum in a sandbox is worth. -/
noncomputable def Try.pinned : Pinned := { name := "ytimphmcoafapgaa", sum := "d8493066dcab6596d0ad37d005dd3c0a23827581a77182e50f53f8578d6367ee", checked := Try.checked }
namespace Rows
def none {H : Type} : Left H := { results := [], args := [] }

/-- 'towpathlaw11.FlowOldest': WHATEVER THE INPUT: true; the input reads as it did. -/
def flowOldestSpec : ChangeSpec := { name := "flowOldest", fn := fun _ => fun
  | [d1, d2, d3] => { results := [.lit (.bool true)], args := [d1, d2, d3] }
  | _ => none }
def flowOldestRow : OpenClaim := { program := "ytimphmcoafapgaa", sum := "d8493066dcab6596d0ad37d005dd3c0a23827581a77182e50f53f8578d6367ee", func := "towpath/towpathlaw11.FlowOldest", spec := "flowOldest", unfollowed := true, recurses := true, plainKeys := false, apart := false }
def FlowOldestSaid : Prop := flowOldestRow.holds Try.pinned (OpenSpec.ofChange flowOldestSpec)

/-- ITS FALSE NEIGHBOUR: 'it returns false'. Refute it at one input. -/
def flowOldestWrong : ChangeSpec := { name := "flowOldest", fn := fun _ => fun
  | [d1, d2, d3] => { results := [.lit (.bool false)], args := [d1, d2, d3] }
  | _ => none }
def FlowOldestWrongFalsely : Prop := flowOldestRow.holds Try.pinned (OpenSpec.ofChange flowOldestWrong)

/-- 'towpathlaw11.FlowIdles': WHATEVER THE INPUT: true; the input reads as it did. -/
def flowIdlesSpec : ChangeSpec := { name := "flowIdles", fn := fun _ => fun
  | [d1, d2, d3] => { results := [.lit (.bool true)], args := [d1, d2, d3] }
  | _ => none }
def flowIdlesRow : OpenClaim := { program := "ytimphmcoafapgaa", sum := "d8493066dcab6596d0ad37d005dd3c0a23827581a77182e50f53f8578d6367ee", func := "towpath/towpathlaw11.FlowIdles", spec := "flowIdles", unfollowed := true, recurses := true, plainKeys := false, apart := false }
def FlowIdlesSaid : Prop := flowIdlesRow.holds Try.pinned (OpenSpec.ofChange flowIdlesSpec)

/-- ITS FALSE NEIGHBOUR: 'it returns false'. Refute it at one input. -/
def flowIdlesWrong : ChangeSpec := { name := "flowIdles", fn := fun _ => fun
  | [d1, d2, d3] => { results := [.lit (.bool false)], args := [d1, d2, d3] }
  | _ => none }
def FlowIdlesWrongFalsely : Prop := flowIdlesRow.holds Try.pinned (OpenSpec.ofChange flowIdlesWrong)

/-- 'towpathlaw11.FlowPlays': WHATEVER THE INPUT: true; the input reads as it did. -/
def flowPlaysSpec : ChangeSpec := { name := "flowPlays", fn := fun _ => fun
  | [d1, d2, d3] => { results := [.lit (.bool true)], args := [d1, d2, d3] }
  | _ => none }
def flowPlaysRow : OpenClaim := { program := "ytimphmcoafapgaa", sum := "d8493066dcab6596d0ad37d005dd3c0a23827581a77182e50f53f8578d6367ee", func := "towpath/towpathlaw11.FlowPlays", spec := "flowPlays", unfollowed := true, recurses := true, plainKeys := false, apart := false }
def FlowPlaysSaid : Prop := flowPlaysRow.holds Try.pinned (OpenSpec.ofChange flowPlaysSpec)

/-- ITS FALSE NEIGHBOUR: 'it returns false'. Refute it at one input. -/
def flowPlaysWrong : ChangeSpec := { name := "flowPlays", fn := fun _ => fun
  | [d1, d2, d3] => { results := [.lit (.bool false)], args := [d1, d2, d3] }
  | _ => none }
def FlowPlaysWrongFalsely : Prop := flowPlaysRow.holds Try.pinned (OpenSpec.ofChange flowPlaysWrong)

/-- 'towpathlaw11.FlowBounds': WHATEVER THE INPUT: true; the input reads as it did. -/
def flowBoundsSpec : ChangeSpec := { name := "flowBounds", fn := fun _ => fun
  | [d] => { results := [.lit (.bool true)], args := [d] }
  | _ => none }
def flowBoundsRow : OpenClaim := { program := "ytimphmcoafapgaa", sum := "d8493066dcab6596d0ad37d005dd3c0a23827581a77182e50f53f8578d6367ee", func := "towpath/towpathlaw11.FlowBounds", spec := "flowBounds", unfollowed := true, recurses := true, plainKeys := false, apart := false }
def FlowBoundsSaid : Prop := flowBoundsRow.holds Try.pinned (OpenSpec.ofChange flowBoundsSpec)

/-- ITS FALSE NEIGHBOUR: 'it returns false'. Refute it at one input. -/
def flowBoundsWrong : ChangeSpec := { name := "flowBounds", fn := fun _ => fun
  | [d] => { results := [.lit (.bool false)], args := [d] }
  | _ => none }
def FlowBoundsWrongFalsely : Prop := flowBoundsRow.holds Try.pinned (OpenSpec.ofChange flowBoundsWrong)

/-- 'towpathlaw11.FlowKeeps': WHATEVER THE INPUT: true; the input reads as it did. -/
def flowKeepsSpec : ChangeSpec := { name := "flowKeeps", fn := fun _ => fun
  | [d1, d2] => { results := [.lit (.bool true)], args := [d1, d2] }
  | _ => none }
def flowKeepsRow : OpenClaim := { program := "ytimphmcoafapgaa", sum := "d8493066dcab6596d0ad37d005dd3c0a23827581a77182e50f53f8578d6367ee", func := "towpath/towpathlaw11.FlowKeeps", spec := "flowKeeps", unfollowed := true, recurses := true, plainKeys := false, apart := false }
def FlowKeepsSaid : Prop := flowKeepsRow.holds Try.pinned (OpenSpec.ofChange flowKeepsSpec)

/-- ITS FALSE NEIGHBOUR: 'it returns false'. Refute it at one input. -/
def flowKeepsWrong : ChangeSpec := { name := "flowKeeps", fn := fun _ => fun
  | [d1, d2] => { results := [.lit (.bool false)], args := [d1, d2] }
  | _ => none }
def FlowKeepsWrongFalsely : Prop := flowKeepsRow.holds Try.pinned (OpenSpec.ofChange flowKeepsWrong)

/-- 'towpathlaw11.FlowNone': WHATEVER THE INPUT: true; the input reads as it did. -/
def flowNoneSpec : ChangeSpec := { name := "flowNone", fn := fun _ => fun
  | [d] => { results := [.lit (.bool true)], args := [d] }
  | _ => none }
def flowNoneRow : OpenClaim := { program := "ytimphmcoafapgaa", sum := "d8493066dcab6596d0ad37d005dd3c0a23827581a77182e50f53f8578d6367ee", func := "towpath/towpathlaw11.FlowNone", spec := "flowNone", unfollowed := true, recurses := true, plainKeys := false, apart := false }
def FlowNoneSaid : Prop := flowNoneRow.holds Try.pinned (OpenSpec.ofChange flowNoneSpec)

/-- ITS FALSE NEIGHBOUR: 'it returns false'. Refute it at one input. -/
def flowNoneWrong : ChangeSpec := { name := "flowNone", fn := fun _ => fun
  | [d] => { results := [.lit (.bool false)], args := [d] }
  | _ => none }
def FlowNoneWrongFalsely : Prop := flowNoneRow.holds Try.pinned (OpenSpec.ofChange flowNoneWrong)

/- THE SECOND FORM. 'bulk': how many values and letters a reading holds, each counted each time it is reached (what is shared counts as often as it is met; a slice's spare places count too). A statement '..UptoSaid' is the law's where the arguments, and the package variables that the reading takes, are together of bulk at most 1048576: NARROWER than '..Said'. Prove '..Said' where nothing that the law and all that it calls make is longer than what came in: it says more and counts as full. Else prove '..UptoSaid'. A law counts once. -/
mutual
def uptoBulk {H : Type} : DataW H → Nat
  | .lit (.string bytes) => bytes.length + 1
  | .lit _ => 1
  | .nil => 1
  | .ptr d => uptoBulk d + 1
  | .slice elems spare => uptoBulkAll elems + uptoBulkAll spare + 1
  | .agg parts => uptoBulkAll parts + 1
  | .iface _ d => uptoBulk d + 1
  | .map entries => uptoBulkEntries entries + 1
  | .held _ => 1
def uptoBulkAll {H : Type} : List (DataW H) → Nat
  | [] => 0
  | d :: r => uptoBulk d + uptoBulkAll r
def uptoBulkEntries {H : Type} : List (Lit × DataW H) → Nat
  | [] => 0
  | x :: r => uptoBulkEntry x + uptoBulkEntries r
def uptoBulkEntry {H : Type} : Lit × DataW H → Nat
  | (.string bytes, d) => bytes.length + uptoBulk d + 1
  | (_, d) => uptoBulk d + 1
 end
def uptoSmall : (H : Type) → List (DataW H) → Bool := fun _ ds => decide (uptoBulkAll ds ≤ 1048576)
def OpenSpec.upto (s : _root_.Go.ChangeSpec) : _root_.Go.OpenSpec := { _root_.Go.OpenSpec.ofChange s with cond := some uptoSmall }

/-- 'towpathlaw11.FlowOldest', WHERE WHAT IT READS IS OF BULK AT MOST 1048576: true; the input reads as it did. -/
def flowOldestUptoRow : OpenClaim := { program := "ytimphmcoafapgaa", sum := "d8493066dcab6596d0ad37d005dd3c0a23827581a77182e50f53f8578d6367ee", func := "towpath/towpathlaw11.FlowOldest", spec := "flowOldest", unfollowed := true, recurses := true, plainKeys := false, apart := false, narrowed := true }
def FlowOldestUptoSaid : Prop := flowOldestUptoRow.holds Try.pinned (OpenSpec.upto flowOldestSpec)

/-- 'towpathlaw11.FlowIdles', WHERE WHAT IT READS IS OF BULK AT MOST 1048576: true; the input reads as it did. -/
def flowIdlesUptoRow : OpenClaim := { program := "ytimphmcoafapgaa", sum := "d8493066dcab6596d0ad37d005dd3c0a23827581a77182e50f53f8578d6367ee", func := "towpath/towpathlaw11.FlowIdles", spec := "flowIdles", unfollowed := true, recurses := true, plainKeys := false, apart := false, narrowed := true }
def FlowIdlesUptoSaid : Prop := flowIdlesUptoRow.holds Try.pinned (OpenSpec.upto flowIdlesSpec)

/-- 'towpathlaw11.FlowPlays', WHERE WHAT IT READS IS OF BULK AT MOST 1048576: true; the input reads as it did. -/
def flowPlaysUptoRow : OpenClaim := { program := "ytimphmcoafapgaa", sum := "d8493066dcab6596d0ad37d005dd3c0a23827581a77182e50f53f8578d6367ee", func := "towpath/towpathlaw11.FlowPlays", spec := "flowPlays", unfollowed := true, recurses := true, plainKeys := false, apart := false, narrowed := true }
def FlowPlaysUptoSaid : Prop := flowPlaysUptoRow.holds Try.pinned (OpenSpec.upto flowPlaysSpec)

/-- 'towpathlaw11.FlowBounds', WHERE WHAT IT READS IS OF BULK AT MOST 1048576: true; the input reads as it did. -/
def flowBoundsUptoRow : OpenClaim := { program := "ytimphmcoafapgaa", sum := "d8493066dcab6596d0ad37d005dd3c0a23827581a77182e50f53f8578d6367ee", func := "towpath/towpathlaw11.FlowBounds", spec := "flowBounds", unfollowed := true, recurses := true, plainKeys := false, apart := false, narrowed := true }
def FlowBoundsUptoSaid : Prop := flowBoundsUptoRow.holds Try.pinned (OpenSpec.upto flowBoundsSpec)

/-- 'towpathlaw11.FlowKeeps', WHERE WHAT IT READS IS OF BULK AT MOST 1048576: true; the input reads as it did. -/
def flowKeepsUptoRow : OpenClaim := { program := "ytimphmcoafapgaa", sum := "d8493066dcab6596d0ad37d005dd3c0a23827581a77182e50f53f8578d6367ee", func := "towpath/towpathlaw11.FlowKeeps", spec := "flowKeeps", unfollowed := true, recurses := true, plainKeys := false, apart := false, narrowed := true }
def FlowKeepsUptoSaid : Prop := flowKeepsUptoRow.holds Try.pinned (OpenSpec.upto flowKeepsSpec)

/-- 'towpathlaw11.FlowNone', WHERE WHAT IT READS IS OF BULK AT MOST 1048576: true; the input reads as it did. -/
def flowNoneUptoRow : OpenClaim := { program := "ytimphmcoafapgaa", sum := "d8493066dcab6596d0ad37d005dd3c0a23827581a77182e50f53f8578d6367ee", func := "towpath/towpathlaw11.FlowNone", spec := "flowNone", unfollowed := true, recurses := true, plainKeys := false, apart := false, narrowed := true }
def FlowNoneUptoSaid : Prop := flowNoneUptoRow.holds Try.pinned (OpenSpec.upto flowNoneSpec)

end Rows
end Go.Proofs.Ytimphmcoafapgaa
