/-
  No cell of these rows narrows 'for every input' (looked for: loops, veiled, ifaces, maps, wideKeys, modest, calm, conditions, laid).
  DERIVED. THE GIVEN ROWS OF THIS SEAT. 5 by the template 'for every input the law returns true; each argument reads behind the call as it read before'; 0 by the template 'total and deterministic' (their statements: YtmahghppojbeoaaTotals.lean).
  GIVEN WITH THE SEED: the statements are not yours to turn. If you find one false, say at which input.
  Laid BY PROGRAM, IN A SANDBOX (cutbox-rows.mjs): the forced cells as the released guide's own fill.sh prints them over the translation 934dc0ddcd385f6f… (all of the seat's roots in one cut). By AI agents, Wed Nov 11 2026. No macro, syntax, notation, axiom, sorry.
-/
import Derived.Test.YtmahghppojbeoaaChecked
import GoSem.Claim
import GoSem.ClaimJoined
import GoSem.ClaimMapViews
import Derived.JoinedTies
import Derived.KernelRfl
namespace Go.Proofs.Ytmahghppojbeoaa
/- THE CELL 'sum', in the pinned program and in every row, IS THE sha256 OF THE DUMP (.gsa) THAT YtmahghppojbeoaaProg.lean LOADS. Nothing in Lean hashes anything: it is a label: what it is worth is what the hold of that sum in a sandbox is worth. -/
noncomputable def Try.pinned : Pinned := { name := "ytmahghppojbeoaa", sum := "934dc0ddcd385f6ff3d1d0fb26837915aecc437a174c455e86cb2220a9c60ea4", checked := Try.checked }
namespace Rows
def none {H : Type} : Left H := { results := [], args := [] }

/-- 'towpathlaw18.SessionSpeaks': WHATEVER THE INPUT: true; the input reads as it did. -/
def sessionSpeaksSpec : ChangeSpec := { name := "sessionSpeaks", fn := fun _ => fun
  | [d1, d2, d3] => { results := [.lit (.bool true)], args := [d1, d2, d3] }
  | _ => none }
def sessionSpeaksRow : OpenClaim := { program := "ytmahghppojbeoaa", sum := "934dc0ddcd385f6ff3d1d0fb26837915aecc437a174c455e86cb2220a9c60ea4", func := "towpath/towpathlaw18.SessionSpeaks", spec := "sessionSpeaks", unfollowed := true, recurses := true, apart := false }
def SessionSpeaksSaid : Prop := sessionSpeaksRow.holds Try.pinned (OpenSpec.ofChange sessionSpeaksSpec)

/-- ITS FALSE NEIGHBOUR: 'it returns false'. Refute it at one input. -/
def sessionSpeaksWrong : ChangeSpec := { name := "sessionSpeaks", fn := fun _ => fun
  | [d1, d2, d3] => { results := [.lit (.bool false)], args := [d1, d2, d3] }
  | _ => none }
def SessionSpeaksWrongFalsely : Prop := sessionSpeaksRow.holds Try.pinned (OpenSpec.ofChange sessionSpeaksWrong)

/-- 'towpathlaw18.SessionOpens': WHATEVER THE INPUT: true; the input reads as it did. -/
def sessionOpensSpec : ChangeSpec := { name := "sessionOpens", fn := fun _ => fun
  | [d1, d2, d3] => { results := [.lit (.bool true)], args := [d1, d2, d3] }
  | _ => none }
def sessionOpensRow : OpenClaim := { program := "ytmahghppojbeoaa", sum := "934dc0ddcd385f6ff3d1d0fb26837915aecc437a174c455e86cb2220a9c60ea4", func := "towpath/towpathlaw18.SessionOpens", spec := "sessionOpens", unfollowed := true, recurses := true, apart := false }
def SessionOpensSaid : Prop := sessionOpensRow.holds Try.pinned (OpenSpec.ofChange sessionOpensSpec)

/-- ITS FALSE NEIGHBOUR: 'it returns false'. Refute it at one input. -/
def sessionOpensWrong : ChangeSpec := { name := "sessionOpens", fn := fun _ => fun
  | [d1, d2, d3] => { results := [.lit (.bool false)], args := [d1, d2, d3] }
  | _ => none }
def SessionOpensWrongFalsely : Prop := sessionOpensRow.holds Try.pinned (OpenSpec.ofChange sessionOpensWrong)

/-- 'towpathlaw18.SessionKeeps': WHATEVER THE INPUT: true; the input reads as it did. -/
def sessionKeepsSpec : ChangeSpec := { name := "sessionKeeps", fn := fun _ => fun
  | [d] => { results := [.lit (.bool true)], args := [d] }
  | _ => none }
def sessionKeepsRow : OpenClaim := { program := "ytmahghppojbeoaa", sum := "934dc0ddcd385f6ff3d1d0fb26837915aecc437a174c455e86cb2220a9c60ea4", func := "towpath/towpathlaw18.SessionKeeps", spec := "sessionKeeps", unfollowed := true, recurses := true, apart := false }
def SessionKeepsSaid : Prop := sessionKeepsRow.holds Try.pinned (OpenSpec.ofChange sessionKeepsSpec)

/-- ITS FALSE NEIGHBOUR: 'it returns false'. Refute it at one input. -/
def sessionKeepsWrong : ChangeSpec := { name := "sessionKeeps", fn := fun _ => fun
  | [d] => { results := [.lit (.bool false)], args := [d] }
  | _ => none }
def SessionKeepsWrongFalsely : Prop := sessionKeepsRow.holds Try.pinned (OpenSpec.ofChange sessionKeepsWrong)

/-- 'towpathlaw18.SessionNone': WHATEVER THE INPUT: true; the input reads as it did. -/
def sessionNoneSpec : ChangeSpec := { name := "sessionNone", fn := fun _ => fun
  | [d] => { results := [.lit (.bool true)], args := [d] }
  | _ => none }
def sessionNoneRow : OpenClaim := { program := "ytmahghppojbeoaa", sum := "934dc0ddcd385f6ff3d1d0fb26837915aecc437a174c455e86cb2220a9c60ea4", func := "towpath/towpathlaw18.SessionNone", spec := "sessionNone", unfollowed := true, recurses := true, apart := false }
def SessionNoneSaid : Prop := sessionNoneRow.holds Try.pinned (OpenSpec.ofChange sessionNoneSpec)

/-- ITS FALSE NEIGHBOUR: 'it returns false'. Refute it at one input. -/
def sessionNoneWrong : ChangeSpec := { name := "sessionNone", fn := fun _ => fun
  | [d] => { results := [.lit (.bool false)], args := [d] }
  | _ => none }
def SessionNoneWrongFalsely : Prop := sessionNoneRow.holds Try.pinned (OpenSpec.ofChange sessionNoneWrong)

/-- 'towpathlaw18.SessionApart': WHATEVER THE INPUT: true; the input reads as it did. -/
def sessionApartSpec : ChangeSpec := { name := "sessionApart", fn := fun _ => fun
  | [d1, d2] => { results := [.lit (.bool true)], args := [d1, d2] }
  | _ => none }
def sessionApartRow : OpenClaim := { program := "ytmahghppojbeoaa", sum := "934dc0ddcd385f6ff3d1d0fb26837915aecc437a174c455e86cb2220a9c60ea4", func := "towpath/towpathlaw18.SessionApart", spec := "sessionApart", unfollowed := true, recurses := true, apart := false }
def SessionApartSaid : Prop := sessionApartRow.holds Try.pinned (OpenSpec.ofChange sessionApartSpec)

/-- ITS FALSE NEIGHBOUR: 'it returns false'. Refute it at one input. -/
def sessionApartWrong : ChangeSpec := { name := "sessionApart", fn := fun _ => fun
  | [d1, d2] => { results := [.lit (.bool false)], args := [d1, d2] }
  | _ => none }
def SessionApartWrongFalsely : Prop := sessionApartRow.holds Try.pinned (OpenSpec.ofChange sessionApartWrong)

/- THE SECOND FORM. 'bulk': how many values and letters a reading holds, each counted each time it is reached (what is shared counts as often as it is met; a slice's spare places count too). A statement '..UptoSaid' is the law's where the arguments, and the package variables that the reading takes, are together of bulk at most 1048576: NARROWER than '..Said'. Prove '..Said' where nothing that the law and all that it calls make is longer than what came in: it says more and counts as full. Else prove '..UptoSaid'. A law counts once. -/
mutual
def uptoBulk {H : Type} : DataW H → Nat
  | .lit (.string bytes) => bytes.length + 1
  | .lit _ => 1
  | .nil => 1
  | .ptr d => uptoBulk d + 1
  | .slice elems spare => uptoBulkAll elems + uptoBulkAll spare + 1
  | .agg parts => uptoBulkAll parts + 1
  | .iface _ d => uptoBulk d + 1
  | .map entries => uptoBulkEntries entries + 1
  | .held _ => 1
def uptoBulkAll {H : Type} : List (DataW H) → Nat
  | [] => 0
  | d :: r => uptoBulk d + uptoBulkAll r
def uptoBulkEntries {H : Type} : List (Lit × DataW H) → Nat
  | [] => 0
  | x :: r => uptoBulkEntry x + uptoBulkEntries r
def uptoBulkEntry {H : Type} : Lit × DataW H → Nat
  | (.string bytes, d) => bytes.length + uptoBulk d + 1
  | (_, d) => uptoBulk d + 1
 end
def uptoSmall : (H : Type) → List (DataW H) → Bool := fun _ ds => decide (uptoBulkAll ds ≤ 1048576)
def OpenSpec.upto (s : _root_.Go.ChangeSpec) : _root_.Go.OpenSpec := { _root_.Go.OpenSpec.ofChange s with cond := some uptoSmall }

/-- 'towpathlaw18.SessionSpeaks', WHERE WHAT IT READS IS OF BULK AT MOST 1048576: true; the input reads as it did. -/
def sessionSpeaksUptoRow : OpenClaim := { program := "ytmahghppojbeoaa", sum := "934dc0ddcd385f6ff3d1d0fb26837915aecc437a174c455e86cb2220a9c60ea4", func := "towpath/towpathlaw18.SessionSpeaks", spec := "sessionSpeaks", unfollowed := true, recurses := true, apart := false, narrowed := true }
def SessionSpeaksUptoSaid : Prop := sessionSpeaksUptoRow.holds Try.pinned (OpenSpec.upto sessionSpeaksSpec)

/-- 'towpathlaw18.SessionOpens', WHERE WHAT IT READS IS OF BULK AT MOST 1048576: true; the input reads as it did. -/
def sessionOpensUptoRow : OpenClaim := { program := "ytmahghppojbeoaa", sum := "934dc0ddcd385f6ff3d1d0fb26837915aecc437a174c455e86cb2220a9c60ea4", func := "towpath/towpathlaw18.SessionOpens", spec := "sessionOpens", unfollowed := true, recurses := true, apart := false, narrowed := true }
def SessionOpensUptoSaid : Prop := sessionOpensUptoRow.holds Try.pinned (OpenSpec.upto sessionOpensSpec)

/-- 'towpathlaw18.SessionKeeps', WHERE WHAT IT READS IS OF BULK AT MOST 1048576: true; the input reads as it did. -/
def sessionKeepsUptoRow : OpenClaim := { program := "ytmahghppojbeoaa", sum := "934dc0ddcd385f6ff3d1d0fb26837915aecc437a174c455e86cb2220a9c60ea4", func := "towpath/towpathlaw18.SessionKeeps", spec := "sessionKeeps", unfollowed := true, recurses := true, apart := false, narrowed := true }
def SessionKeepsUptoSaid : Prop := sessionKeepsUptoRow.holds Try.pinned (OpenSpec.upto sessionKeepsSpec)

/-- 'towpathlaw18.SessionNone', WHERE WHAT IT READS IS OF BULK AT MOST 1048576: true; the input reads as it did. -/
def sessionNoneUptoRow : OpenClaim := { program := "ytmahghppojbeoaa", sum := "934dc0ddcd385f6ff3d1d0fb26837915aecc437a174c455e86cb2220a9c60ea4", func := "towpath/towpathlaw18.SessionNone", spec := "sessionNone", unfollowed := true, recurses := true, apart := false, narrowed := true }
def SessionNoneUptoSaid : Prop := sessionNoneUptoRow.holds Try.pinned (OpenSpec.upto sessionNoneSpec)

/-- 'towpathlaw18.SessionApart', WHERE WHAT IT READS IS OF BULK AT MOST 1048576: true; the input reads as it did. -/
def sessionApartUptoRow : OpenClaim := { program := "ytmahghppojbeoaa", sum := "934dc0ddcd385f6ff3d1d0fb26837915aecc437a174c455e86cb2220a9c60ea4", func := "towpath/towpathlaw18.SessionApart", spec := "sessionApart", unfollowed := true, recurses := true, apart := false, narrowed := true }
def SessionApartUptoSaid : Prop := sessionApartUptoRow.holds Try.pinned (OpenSpec.upto sessionApartSpec)

end Rows
end Go.Proofs.Ytmahghppojbeoaa
