/-
  NARROWER THAN 'FOR EVERY INPUT', by the rows' own cells (each row's printed sentence says how): LeaseFull: laid · LeaseApart: laid · LeaseFinds: laid · LeaseBorders: laid · LeaseGrants: laid · LeaseAlone: laid.
  DERIVED. THE GIVEN ROWS OF THIS SEAT. 6 by the template 'for every input the law returns true; each argument reads behind the call as it read before'; 0 by the template 'total and deterministic' (their statements: YtoambminolcgfaaDoorTotals.lean).
  GIVEN WITH THE SEED: the statements are not yours to turn. If you find one false, say at which input.
  Laid BY PROGRAM, IN A SANDBOX (cutbox-rows.mjs): the forced cells as the released guide's own fill.sh prints them over the translation 27a0dcd777b7ec85… (all of the seat's roots in one cut). By AI agents, Wed Nov 11 2026. No macro, syntax, notation, axiom, sorry.
-/
import Derived.Test.YtoambminolcgfaaDoorChecked
import GoSem.Claim
import GoSem.ClaimJoined
import GoSem.ClaimMapViews
import Derived.JoinedTies
import Derived.KernelRfl
namespace Go.Proofs.YtoambminolcgfaaDoor
/- THE CELL 'sum', in the pinned program and in every row, IS THE sha256 OF THE DUMP (.gsa) THAT YtoambminolcgfaaDoorProg.lean LOADS. Nothing in Lean hashes anything: it is a label: what it is worth is what the hold of that sum in a sandbox is worth. -/
noncomputable def Tryd.pinned : Pinned := { name := "ytoambminolcgfaadoor", sum := "27a0dcd777b7ec853808af119f2146bf48feb26483a99fba143330b569e06628", checked := Tryd.checked }
namespace Rows
def none {H : Type} : Left H := { results := [], args := [] }

/- WHAT THE LISTED PACKAGE-LEVEL VARIABLES READ AS WHEN THE CALL BEGINS. Each datum BY PROGRAM (the guide's laid-datum.mjs) off the statement by which the dump's own 'gosem.cut.vars' lays the variable. In a bare row this is a premise. The card (YtoambminolcgfaaDoorCards.lean) ties it to the program's text. -/
def laid_math_bits_deBruijn64tab {H : Type} : DataW H := .agg [.lit (.int .u8 0), .lit (.int .u8 1), .lit (.int .u8 56), .lit (.int .u8 2), .lit (.int .u8 57), .lit (.int .u8 49), .lit (.int .u8 28), .lit (.int .u8 3), .lit (.int .u8 61), .lit (.int .u8 58), .lit (.int .u8 42), .lit (.int .u8 50), .lit (.int .u8 38), .lit (.int .u8 29), .lit (.int .u8 17), .lit (.int .u8 4), .lit (.int .u8 62), .lit (.int .u8 47), .lit (.int .u8 59), .lit (.int .u8 36), .lit (.int .u8 45), .lit (.int .u8 43), .lit (.int .u8 51), .lit (.int .u8 22), .lit (.int .u8 53), .lit (.int .u8 39), .lit (.int .u8 33), .lit (.int .u8 30), .lit (.int .u8 24), .lit (.int .u8 18), .lit (.int .u8 12), .lit (.int .u8 5), .lit (.int .u8 63), .lit (.int .u8 55), .lit (.int .u8 48), .lit (.int .u8 27), .lit (.int .u8 60), .lit (.int .u8 41), .lit (.int .u8 37), .lit (.int .u8 16), .lit (.int .u8 46), .lit (.int .u8 35), .lit (.int .u8 44), .lit (.int .u8 21), .lit (.int .u8 52), .lit (.int .u8 32), .lit (.int .u8 23), .lit (.int .u8 11), .lit (.int .u8 54), .lit (.int .u8 26), .lit (.int .u8 40), .lit (.int .u8 15), .lit (.int .u8 34), .lit (.int .u8 20), .lit (.int .u8 31), .lit (.int .u8 10), .lit (.int .u8 25), .lit (.int .u8 14), .lit (.int .u8 19), .lit (.int .u8 9), .lit (.int .u8 13), .lit (.int .u8 8), .lit (.int .u8 7), .lit (.int .u8 6)]

/-- 'towpathlaw12.LeaseFull': WHATEVER THE INPUT: true; the input reads as it did. -/
def leaseFullSpec : ChangeSpec := { name := "leaseFull", fn := fun _ => fun
  | [d1, d2, d3] => { results := [.lit (.bool true)], args := [d1, d2, d3] }
  | _ => none }
def leaseFullRow : OpenClaim := { program := "ytoambminolcgfaadoor", sum := "27a0dcd777b7ec853808af119f2146bf48feb26483a99fba143330b569e06628", func := "towpath/towpathlaw12.LeaseFull", spec := "leaseFull", inPlace := ["slices.overlaps[towpath/api.Lease]"], unfollowed := true, recurses := true, named := ["math/bits.deBruijn64tab"], apart := false, laid := [("math/bits.deBruijn64tab", laid_math_bits_deBruijn64tab)] }
def LeaseFullSaid : Prop := leaseFullRow.holds Tryd.pinned (OpenSpec.ofChange leaseFullSpec)

/-- ITS FALSE NEIGHBOUR: 'it returns false'. Refute it at one input. -/
def leaseFullWrong : ChangeSpec := { name := "leaseFull", fn := fun _ => fun
  | [d1, d2, d3] => { results := [.lit (.bool false)], args := [d1, d2, d3] }
  | _ => none }
def LeaseFullWrongFalsely : Prop := leaseFullRow.holds Tryd.pinned (OpenSpec.ofChange leaseFullWrong)

/-- 'towpathlaw12.LeaseApart': WHATEVER THE INPUT: true; the input reads as it did. -/
def leaseApartSpec : ChangeSpec := { name := "leaseApart", fn := fun _ => fun
  | [d1, d2] => { results := [.lit (.bool true)], args := [d1, d2] }
  | _ => none }
def leaseApartRow : OpenClaim := { program := "ytoambminolcgfaadoor", sum := "27a0dcd777b7ec853808af119f2146bf48feb26483a99fba143330b569e06628", func := "towpath/towpathlaw12.LeaseApart", spec := "leaseApart", inPlace := ["slices.overlaps[towpath/api.Lease]"], unfollowed := true, recurses := true, named := ["math/bits.deBruijn64tab"], apart := false, laid := [("math/bits.deBruijn64tab", laid_math_bits_deBruijn64tab)] }
def LeaseApartSaid : Prop := leaseApartRow.holds Tryd.pinned (OpenSpec.ofChange leaseApartSpec)

/-- ITS FALSE NEIGHBOUR: 'it returns false'. Refute it at one input. -/
def leaseApartWrong : ChangeSpec := { name := "leaseApart", fn := fun _ => fun
  | [d1, d2] => { results := [.lit (.bool false)], args := [d1, d2] }
  | _ => none }
def LeaseApartWrongFalsely : Prop := leaseApartRow.holds Tryd.pinned (OpenSpec.ofChange leaseApartWrong)

/-- 'towpathlaw12.LeaseFinds': WHATEVER THE INPUT: true; the input reads as it did. -/
def leaseFindsSpec : ChangeSpec := { name := "leaseFinds", fn := fun _ => fun
  | [d] => { results := [.lit (.bool true)], args := [d] }
  | _ => none }
def leaseFindsRow : OpenClaim := { program := "ytoambminolcgfaadoor", sum := "27a0dcd777b7ec853808af119f2146bf48feb26483a99fba143330b569e06628", func := "towpath/towpathlaw12.LeaseFinds", spec := "leaseFinds", inPlace := ["slices.overlaps[towpath/api.Lease]"], unfollowed := true, recurses := true, named := ["math/bits.deBruijn64tab"], apart := false, laid := [("math/bits.deBruijn64tab", laid_math_bits_deBruijn64tab)] }
def LeaseFindsSaid : Prop := leaseFindsRow.holds Tryd.pinned (OpenSpec.ofChange leaseFindsSpec)

/-- ITS FALSE NEIGHBOUR: 'it returns false'. Refute it at one input. -/
def leaseFindsWrong : ChangeSpec := { name := "leaseFinds", fn := fun _ => fun
  | [d] => { results := [.lit (.bool false)], args := [d] }
  | _ => none }
def LeaseFindsWrongFalsely : Prop := leaseFindsRow.holds Tryd.pinned (OpenSpec.ofChange leaseFindsWrong)

/-- 'towpathlaw12.LeaseBorders': WHATEVER THE INPUT: true; the input reads as it did. -/
def leaseBordersSpec : ChangeSpec := { name := "leaseBorders", fn := fun _ => fun
  | [d1, d2, d3] => { results := [.lit (.bool true)], args := [d1, d2, d3] }
  | _ => none }
def leaseBordersRow : OpenClaim := { program := "ytoambminolcgfaadoor", sum := "27a0dcd777b7ec853808af119f2146bf48feb26483a99fba143330b569e06628", func := "towpath/towpathlaw12.LeaseBorders", spec := "leaseBorders", inPlace := ["slices.overlaps[towpath/api.Lease]"], unfollowed := true, recurses := true, named := ["math/bits.deBruijn64tab"], apart := false, laid := [("math/bits.deBruijn64tab", laid_math_bits_deBruijn64tab)] }
def LeaseBordersSaid : Prop := leaseBordersRow.holds Tryd.pinned (OpenSpec.ofChange leaseBordersSpec)

/-- ITS FALSE NEIGHBOUR: 'it returns false'. Refute it at one input. -/
def leaseBordersWrong : ChangeSpec := { name := "leaseBorders", fn := fun _ => fun
  | [d1, d2, d3] => { results := [.lit (.bool false)], args := [d1, d2, d3] }
  | _ => none }
def LeaseBordersWrongFalsely : Prop := leaseBordersRow.holds Tryd.pinned (OpenSpec.ofChange leaseBordersWrong)

/-- 'towpathlaw12.LeaseGrants': WHATEVER THE INPUT: true; the input reads as it did. -/
def leaseGrantsSpec : ChangeSpec := { name := "leaseGrants", fn := fun _ => fun
  | [d] => { results := [.lit (.bool true)], args := [d] }
  | _ => none }
def leaseGrantsRow : OpenClaim := { program := "ytoambminolcgfaadoor", sum := "27a0dcd777b7ec853808af119f2146bf48feb26483a99fba143330b569e06628", func := "towpath/towpathlaw12.LeaseGrants", spec := "leaseGrants", inPlace := ["slices.overlaps[towpath/api.Lease]"], unfollowed := true, recurses := true, named := ["math/bits.deBruijn64tab"], apart := false, laid := [("math/bits.deBruijn64tab", laid_math_bits_deBruijn64tab)] }
def LeaseGrantsSaid : Prop := leaseGrantsRow.holds Tryd.pinned (OpenSpec.ofChange leaseGrantsSpec)

/-- ITS FALSE NEIGHBOUR: 'it returns false'. Refute it at one input. -/
def leaseGrantsWrong : ChangeSpec := { name := "leaseGrants", fn := fun _ => fun
  | [d] => { results := [.lit (.bool false)], args := [d] }
  | _ => none }
def LeaseGrantsWrongFalsely : Prop := leaseGrantsRow.holds Tryd.pinned (OpenSpec.ofChange leaseGrantsWrong)

/-- 'towpathlaw12.LeaseAlone': WHATEVER THE INPUT: true; the input reads as it did. -/
def leaseAloneSpec : ChangeSpec := { name := "leaseAlone", fn := fun _ => fun
  | [d] => { results := [.lit (.bool true)], args := [d] }
  | _ => none }
def leaseAloneRow : OpenClaim := { program := "ytoambminolcgfaadoor", sum := "27a0dcd777b7ec853808af119f2146bf48feb26483a99fba143330b569e06628", func := "towpath/towpathlaw12.LeaseAlone", spec := "leaseAlone", inPlace := ["slices.overlaps[towpath/api.Lease]"], unfollowed := true, recurses := true, named := ["math/bits.deBruijn64tab"], apart := false, laid := [("math/bits.deBruijn64tab", laid_math_bits_deBruijn64tab)] }
def LeaseAloneSaid : Prop := leaseAloneRow.holds Tryd.pinned (OpenSpec.ofChange leaseAloneSpec)

/-- ITS FALSE NEIGHBOUR: 'it returns false'. Refute it at one input. -/
def leaseAloneWrong : ChangeSpec := { name := "leaseAlone", fn := fun _ => fun
  | [d] => { results := [.lit (.bool false)], args := [d] }
  | _ => none }
def LeaseAloneWrongFalsely : Prop := leaseAloneRow.holds Tryd.pinned (OpenSpec.ofChange leaseAloneWrong)

/- THE SECOND FORM. 'bulk': how many values and letters a reading holds, each counted each time it is reached (what is shared counts as often as it is met; a slice's spare places count too). A statement '..UptoSaid' is the law's where the arguments, and the package variables that the reading takes, are together of bulk at most 1048576: NARROWER than '..Said'. Prove '..Said' where nothing that the law and all that it calls make is longer than what came in: it says more and counts as full. Else prove '..UptoSaid'. A law counts once. -/
mutual
def uptoBulk {H : Type} : DataW H → Nat
  | .lit (.string bytes) => bytes.length + 1
  | .lit _ => 1
  | .nil => 1
  | .ptr d => uptoBulk d + 1
  | .slice elems spare => uptoBulkAll elems + uptoBulkAll spare + 1
  | .agg parts => uptoBulkAll parts + 1
  | .iface _ d => uptoBulk d + 1
  | .map entries => uptoBulkEntries entries + 1
  | .held _ => 1
def uptoBulkAll {H : Type} : List (DataW H) → Nat
  | [] => 0
  | d :: r => uptoBulk d + uptoBulkAll r
def uptoBulkEntries {H : Type} : List (Lit × DataW H) → Nat
  | [] => 0
  | x :: r => uptoBulkEntry x + uptoBulkEntries r
def uptoBulkEntry {H : Type} : Lit × DataW H → Nat
  | (.string bytes, d) => bytes.length + uptoBulk d + 1
  | (_, d) => uptoBulk d + 1
 end
def uptoSmall : (H : Type) → List (DataW H) → Bool := fun _ ds => decide (uptoBulkAll ds ≤ 1048576)
def OpenSpec.upto (s : _root_.Go.ChangeSpec) : _root_.Go.OpenSpec := { _root_.Go.OpenSpec.ofChange s with cond := some uptoSmall }

/-- 'towpathlaw12.LeaseFull', WHERE WHAT IT READS IS OF BULK AT MOST 1048576: true; the input reads as it did. -/
def leaseFullUptoRow : OpenClaim := { program := "ytoambminolcgfaadoor", sum := "27a0dcd777b7ec853808af119f2146bf48feb26483a99fba143330b569e06628", func := "towpath/towpathlaw12.LeaseFull", spec := "leaseFull", inPlace := ["slices.overlaps[towpath/api.Lease]"], unfollowed := true, recurses := true, named := ["math/bits.deBruijn64tab"], apart := false, laid := [("math/bits.deBruijn64tab", laid_math_bits_deBruijn64tab)], narrowed := true }
def LeaseFullUptoSaid : Prop := leaseFullUptoRow.holds Tryd.pinned (OpenSpec.upto leaseFullSpec)

/-- 'towpathlaw12.LeaseApart', WHERE WHAT IT READS IS OF BULK AT MOST 1048576: true; the input reads as it did. -/
def leaseApartUptoRow : OpenClaim := { program := "ytoambminolcgfaadoor", sum := "27a0dcd777b7ec853808af119f2146bf48feb26483a99fba143330b569e06628", func := "towpath/towpathlaw12.LeaseApart", spec := "leaseApart", inPlace := ["slices.overlaps[towpath/api.Lease]"], unfollowed := true, recurses := true, named := ["math/bits.deBruijn64tab"], apart := false, laid := [("math/bits.deBruijn64tab", laid_math_bits_deBruijn64tab)], narrowed := true }
def LeaseApartUptoSaid : Prop := leaseApartUptoRow.holds Tryd.pinned (OpenSpec.upto leaseApartSpec)

/-- 'towpathlaw12.LeaseFinds', WHERE WHAT IT READS IS OF BULK AT MOST 1048576: true; the input reads as it did. -/
def leaseFindsUptoRow : OpenClaim := { program := "ytoambminolcgfaadoor", sum := "27a0dcd777b7ec853808af119f2146bf48feb26483a99fba143330b569e06628", func := "towpath/towpathlaw12.LeaseFinds", spec := "leaseFinds", inPlace := ["slices.overlaps[towpath/api.Lease]"], unfollowed := true, recurses := true, named := ["math/bits.deBruijn64tab"], apart := false, laid := [("math/bits.deBruijn64tab", laid_math_bits_deBruijn64tab)], narrowed := true }
def LeaseFindsUptoSaid : Prop := leaseFindsUptoRow.holds Tryd.pinned (OpenSpec.upto leaseFindsSpec)

/-- 'towpathlaw12.LeaseBorders', WHERE WHAT IT READS IS OF BULK AT MOST 1048576: true; the input reads as it did. -/
def leaseBordersUptoRow : OpenClaim := { program := "ytoambminolcgfaadoor", sum := "27a0dcd777b7ec853808af119f2146bf48feb26483a99fba143330b569e06628", func := "towpath/towpathlaw12.LeaseBorders", spec := "leaseBorders", inPlace := ["slices.overlaps[towpath/api.Lease]"], unfollowed := true, recurses := true, named := ["math/bits.deBruijn64tab"], apart := false, laid := [("math/bits.deBruijn64tab", laid_math_bits_deBruijn64tab)], narrowed := true }
def LeaseBordersUptoSaid : Prop := leaseBordersUptoRow.holds Tryd.pinned (OpenSpec.upto leaseBordersSpec)

/-- 'towpathlaw12.LeaseGrants', WHERE WHAT IT READS IS OF BULK AT MOST 1048576: true; the input reads as it did. -/
def leaseGrantsUptoRow : OpenClaim := { program := "ytoambminolcgfaadoor", sum := "27a0dcd777b7ec853808af119f2146bf48feb26483a99fba143330b569e06628", func := "towpath/towpathlaw12.LeaseGrants", spec := "leaseGrants", inPlace := ["slices.overlaps[towpath/api.Lease]"], unfollowed := true, recurses := true, named := ["math/bits.deBruijn64tab"], apart := false, laid := [("math/bits.deBruijn64tab", laid_math_bits_deBruijn64tab)], narrowed := true }
def LeaseGrantsUptoSaid : Prop := leaseGrantsUptoRow.holds Tryd.pinned (OpenSpec.upto leaseGrantsSpec)

/-- 'towpathlaw12.LeaseAlone', WHERE WHAT IT READS IS OF BULK AT MOST 1048576: true; the input reads as it did. -/
def leaseAloneUptoRow : OpenClaim := { program := "ytoambminolcgfaadoor", sum := "27a0dcd777b7ec853808af119f2146bf48feb26483a99fba143330b569e06628", func := "towpath/towpathlaw12.LeaseAlone", spec := "leaseAlone", inPlace := ["slices.overlaps[towpath/api.Lease]"], unfollowed := true, recurses := true, named := ["math/bits.deBruijn64tab"], apart := false, laid := [("math/bits.deBruijn64tab", laid_math_bits_deBruijn64tab)], narrowed := true }
def LeaseAloneUptoSaid : Prop := leaseAloneUptoRow.holds Tryd.pinned (OpenSpec.upto leaseAloneSpec)

end Rows
end Go.Proofs.YtoambminolcgfaaDoor
