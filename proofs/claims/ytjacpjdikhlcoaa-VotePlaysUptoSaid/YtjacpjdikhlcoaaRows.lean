/-
  No cell of these rows narrows 'for every input' (looked for: loops, veiled, ifaces, maps, wideKeys, modest, calm, conditions, laid).
  DERIVED. THE GIVEN ROWS OF THIS SEAT. 7 by the template 'for every input the law returns true; each argument reads behind the call as it read before'; 0 by the template 'total and deterministic' (their statements: YtjacpjdikhlcoaaTotals.lean).
  GIVEN WITH THE SEED: the statements are not yours to turn. If you find one false, say at which input.
  Laid BY PROGRAM, IN A SANDBOX (cutbox-rows.mjs): the forced cells as the released guide's own fill.sh prints them over the translation 9fd1ff42c35fdd0e… (all of the seat's roots in one cut). By AI agents, Wed Nov 11 2026. No macro, syntax, notation, axiom, sorry.
-/
import Derived.Test.YtjacpjdikhlcoaaChecked
import GoSem.Claim
import GoSem.ClaimJoined
import GoSem.ClaimMapViews
import Derived.JoinedTies
import Derived.KernelRfl
namespace Go.Proofs.Ytjacpjdikhlcoaa
/- THE CELL 'sum', in the pinned program and in every row, IS THE sha256 OF THE DUMP (.gsa) THAT YtjacpjdikhlcoaaProg.lean LOADS. Nothing in Lean hashes anything: it is a label: what it is worth is what the hold of that sum in a sandbox is worth. -/
noncomputable def Try.pinned : Pinned := { name := "ytjacpjdikhlcoaa", sum := "9fd1ff42c35fdd0ea228d89e56fbab869c9c186001a0035917ceab7ab9ced97b", checked := Try.checked }
namespace Rows
def none {H : Type} : Left H := { results := [], args := [] }

/-- 'towpathlaw14.VoteReads': WHATEVER THE INPUT: true; the input reads as it did. -/
def voteReadsSpec : ChangeSpec := { name := "voteReads", fn := fun _ => fun
  | [d] => { results := [.lit (.bool true)], args := [d] }
  | _ => none }
def voteReadsRow : OpenClaim := { program := "ytjacpjdikhlcoaa", sum := "9fd1ff42c35fdd0ea228d89e56fbab869c9c186001a0035917ceab7ab9ced97b", func := "towpath/towpathlaw14.VoteReads", spec := "voteReads", inPlace := ["maps.clone"], unfollowed := true, recurses := true, plainKeys := false, apart := false }
def VoteReadsSaid : Prop := voteReadsRow.holds Try.pinned (OpenSpec.ofChange voteReadsSpec)

/-- ITS FALSE NEIGHBOUR: 'it returns false'. Refute it at one input. -/
def voteReadsWrong : ChangeSpec := { name := "voteReads", fn := fun _ => fun
  | [d] => { results := [.lit (.bool false)], args := [d] }
  | _ => none }
def VoteReadsWrongFalsely : Prop := voteReadsRow.holds Try.pinned (OpenSpec.ofChange voteReadsWrong)

/-- 'towpathlaw14.VoteStores': WHATEVER THE INPUT: true; the input reads as it did. -/
def voteStoresSpec : ChangeSpec := { name := "voteStores", fn := fun _ => fun
  | [d] => { results := [.lit (.bool true)], args := [d] }
  | _ => none }
def voteStoresRow : OpenClaim := { program := "ytjacpjdikhlcoaa", sum := "9fd1ff42c35fdd0ea228d89e56fbab869c9c186001a0035917ceab7ab9ced97b", func := "towpath/towpathlaw14.VoteStores", spec := "voteStores", inPlace := ["maps.clone"], unfollowed := true, recurses := true, plainKeys := false, apart := false }
def VoteStoresSaid : Prop := voteStoresRow.holds Try.pinned (OpenSpec.ofChange voteStoresSpec)

/-- ITS FALSE NEIGHBOUR: 'it returns false'. Refute it at one input. -/
def voteStoresWrong : ChangeSpec := { name := "voteStores", fn := fun _ => fun
  | [d] => { results := [.lit (.bool false)], args := [d] }
  | _ => none }
def VoteStoresWrongFalsely : Prop := voteStoresRow.holds Try.pinned (OpenSpec.ofChange voteStoresWrong)

/-- 'towpathlaw14.VoteRises': WHATEVER THE INPUT: true; the input reads as it did. -/
def voteRisesSpec : ChangeSpec := { name := "voteRises", fn := fun _ => fun
  | [d1, d2] => { results := [.lit (.bool true)], args := [d1, d2] }
  | _ => none }
def voteRisesRow : OpenClaim := { program := "ytjacpjdikhlcoaa", sum := "9fd1ff42c35fdd0ea228d89e56fbab869c9c186001a0035917ceab7ab9ced97b", func := "towpath/towpathlaw14.VoteRises", spec := "voteRises", inPlace := ["maps.clone"], unfollowed := true, recurses := true, plainKeys := false, apart := false }
def VoteRisesSaid : Prop := voteRisesRow.holds Try.pinned (OpenSpec.ofChange voteRisesSpec)

/-- ITS FALSE NEIGHBOUR: 'it returns false'. Refute it at one input. -/
def voteRisesWrong : ChangeSpec := { name := "voteRises", fn := fun _ => fun
  | [d1, d2] => { results := [.lit (.bool false)], args := [d1, d2] }
  | _ => none }
def VoteRisesWrongFalsely : Prop := voteRisesRow.holds Try.pinned (OpenSpec.ofChange voteRisesWrong)

/-- 'towpathlaw14.VoteLogs': WHATEVER THE INPUT: true; the input reads as it did. -/
def voteLogsSpec : ChangeSpec := { name := "voteLogs", fn := fun _ => fun
  | [d] => { results := [.lit (.bool true)], args := [d] }
  | _ => none }
def voteLogsRow : OpenClaim := { program := "ytjacpjdikhlcoaa", sum := "9fd1ff42c35fdd0ea228d89e56fbab869c9c186001a0035917ceab7ab9ced97b", func := "towpath/towpathlaw14.VoteLogs", spec := "voteLogs", inPlace := ["maps.clone"], unfollowed := true, recurses := true, plainKeys := false, apart := false }
def VoteLogsSaid : Prop := voteLogsRow.holds Try.pinned (OpenSpec.ofChange voteLogsSpec)

/-- ITS FALSE NEIGHBOUR: 'it returns false'. Refute it at one input. -/
def voteLogsWrong : ChangeSpec := { name := "voteLogs", fn := fun _ => fun
  | [d] => { results := [.lit (.bool false)], args := [d] }
  | _ => none }
def VoteLogsWrongFalsely : Prop := voteLogsRow.holds Try.pinned (OpenSpec.ofChange voteLogsWrong)

/-- 'towpathlaw14.VoteTight': WHATEVER THE INPUT: true; the input reads as it did. -/
def voteTightSpec : ChangeSpec := { name := "voteTight", fn := fun _ => fun
  | [d] => { results := [.lit (.bool true)], args := [d] }
  | _ => none }
def voteTightRow : OpenClaim := { program := "ytjacpjdikhlcoaa", sum := "9fd1ff42c35fdd0ea228d89e56fbab869c9c186001a0035917ceab7ab9ced97b", func := "towpath/towpathlaw14.VoteTight", spec := "voteTight", inPlace := ["maps.clone"], unfollowed := true, recurses := true, plainKeys := false, apart := false }
def VoteTightSaid : Prop := voteTightRow.holds Try.pinned (OpenSpec.ofChange voteTightSpec)

/-- ITS FALSE NEIGHBOUR: 'it returns false'. Refute it at one input. -/
def voteTightWrong : ChangeSpec := { name := "voteTight", fn := fun _ => fun
  | [d] => { results := [.lit (.bool false)], args := [d] }
  | _ => none }
def VoteTightWrongFalsely : Prop := voteTightRow.holds Try.pinned (OpenSpec.ofChange voteTightWrong)

/-- 'towpathlaw14.VoteNone': WHATEVER THE INPUT: true; the input reads as it did. -/
def voteNoneSpec : ChangeSpec := { name := "voteNone", fn := fun _ => fun
  | [d1, d2] => { results := [.lit (.bool true)], args := [d1, d2] }
  | _ => none }
def voteNoneRow : OpenClaim := { program := "ytjacpjdikhlcoaa", sum := "9fd1ff42c35fdd0ea228d89e56fbab869c9c186001a0035917ceab7ab9ced97b", func := "towpath/towpathlaw14.VoteNone", spec := "voteNone", inPlace := ["maps.clone"], unfollowed := true, recurses := true, plainKeys := false, apart := false }
def VoteNoneSaid : Prop := voteNoneRow.holds Try.pinned (OpenSpec.ofChange voteNoneSpec)

/-- ITS FALSE NEIGHBOUR: 'it returns false'. Refute it at one input. -/
def voteNoneWrong : ChangeSpec := { name := "voteNone", fn := fun _ => fun
  | [d1, d2] => { results := [.lit (.bool false)], args := [d1, d2] }
  | _ => none }
def VoteNoneWrongFalsely : Prop := voteNoneRow.holds Try.pinned (OpenSpec.ofChange voteNoneWrong)

/-- 'towpathlaw14.VotePlays': WHATEVER THE INPUT: true; the input reads as it did. -/
def votePlaysSpec : ChangeSpec := { name := "votePlays", fn := fun _ => fun
  | [d1, d2] => { results := [.lit (.bool true)], args := [d1, d2] }
  | _ => none }
def votePlaysRow : OpenClaim := { program := "ytjacpjdikhlcoaa", sum := "9fd1ff42c35fdd0ea228d89e56fbab869c9c186001a0035917ceab7ab9ced97b", func := "towpath/towpathlaw14.VotePlays", spec := "votePlays", inPlace := ["maps.clone"], unfollowed := true, recurses := true, plainKeys := false, apart := false }
def VotePlaysSaid : Prop := votePlaysRow.holds Try.pinned (OpenSpec.ofChange votePlaysSpec)

/-- ITS FALSE NEIGHBOUR: 'it returns false'. Refute it at one input. -/
def votePlaysWrong : ChangeSpec := { name := "votePlays", fn := fun _ => fun
  | [d1, d2] => { results := [.lit (.bool false)], args := [d1, d2] }
  | _ => none }
def VotePlaysWrongFalsely : Prop := votePlaysRow.holds Try.pinned (OpenSpec.ofChange votePlaysWrong)

/- THE SECOND FORM. 'bulk': how many values and letters a reading holds, each counted each time it is reached (what is shared counts as often as it is met; a slice's spare places count too). A statement '..UptoSaid' is the law's where the arguments, and the package variables that the reading takes, are together of bulk at most 1048576: NARROWER than '..Said'. Prove '..Said' where nothing that the law and all that it calls make is longer than what came in: it says more and counts as full. Else prove '..UptoSaid'. A law counts once. -/
mutual
def uptoBulk {H : Type} : DataW H → Nat
  | .lit (.string bytes) => bytes.length + 1
  | .lit _ => 1
  | .nil => 1
  | .ptr d => uptoBulk d + 1
  | .slice elems spare => uptoBulkAll elems + uptoBulkAll spare + 1
  | .agg parts => uptoBulkAll parts + 1
  | .iface _ d => uptoBulk d + 1
  | .map entries => uptoBulkEntries entries + 1
  | .held _ => 1
def uptoBulkAll {H : Type} : List (DataW H) → Nat
  | [] => 0
  | d :: r => uptoBulk d + uptoBulkAll r
def uptoBulkEntries {H : Type} : List (Lit × DataW H) → Nat
  | [] => 0
  | x :: r => uptoBulkEntry x + uptoBulkEntries r
def uptoBulkEntry {H : Type} : Lit × DataW H → Nat
  | (.string bytes, d) => bytes.length + uptoBulk d + 1
  | (_, d) => uptoBulk d + 1
 end
def uptoSmall : (H : Type) → List (DataW H) → Bool := fun _ ds => decide (uptoBulkAll ds ≤ 1048576)
def OpenSpec.upto (s : _root_.Go.ChangeSpec) : _root_.Go.OpenSpec := { _root_.Go.OpenSpec.ofChange s with cond := some uptoSmall }

/-- 'towpathlaw14.VoteReads', WHERE WHAT IT READS IS OF BULK AT MOST 1048576: true; the input reads as it did. -/
def voteReadsUptoRow : OpenClaim := { program := "ytjacpjdikhlcoaa", sum := "9fd1ff42c35fdd0ea228d89e56fbab869c9c186001a0035917ceab7ab9ced97b", func := "towpath/towpathlaw14.VoteReads", spec := "voteReads", inPlace := ["maps.clone"], unfollowed := true, recurses := true, plainKeys := false, apart := false, narrowed := true }
def VoteReadsUptoSaid : Prop := voteReadsUptoRow.holds Try.pinned (OpenSpec.upto voteReadsSpec)

/-- 'towpathlaw14.VoteStores', WHERE WHAT IT READS IS OF BULK AT MOST 1048576: true; the input reads as it did. -/
def voteStoresUptoRow : OpenClaim := { program := "ytjacpjdikhlcoaa", sum := "9fd1ff42c35fdd0ea228d89e56fbab869c9c186001a0035917ceab7ab9ced97b", func := "towpath/towpathlaw14.VoteStores", spec := "voteStores", inPlace := ["maps.clone"], unfollowed := true, recurses := true, plainKeys := false, apart := false, narrowed := true }
def VoteStoresUptoSaid : Prop := voteStoresUptoRow.holds Try.pinned (OpenSpec.upto voteStoresSpec)

/-- 'towpathlaw14.VoteRises', WHERE WHAT IT READS IS OF BULK AT MOST 1048576: true; the input reads as it did. -/
def voteRisesUptoRow : OpenClaim := { program := "ytjacpjdikhlcoaa", sum := "9fd1ff42c35fdd0ea228d89e56fbab869c9c186001a0035917ceab7ab9ced97b", func := "towpath/towpathlaw14.VoteRises", spec := "voteRises", inPlace := ["maps.clone"], unfollowed := true, recurses := true, plainKeys := false, apart := false, narrowed := true }
def VoteRisesUptoSaid : Prop := voteRisesUptoRow.holds Try.pinned (OpenSpec.upto voteRisesSpec)

/-- 'towpathlaw14.VoteLogs', WHERE WHAT IT READS IS OF BULK AT MOST 1048576: true; the input reads as it did. -/
def voteLogsUptoRow : OpenClaim := { program := "ytjacpjdikhlcoaa", sum := "9fd1ff42c35fdd0ea228d89e56fbab869c9c186001a0035917ceab7ab9ced97b", func := "towpath/towpathlaw14.VoteLogs", spec := "voteLogs", inPlace := ["maps.clone"], unfollowed := true, recurses := true, plainKeys := false, apart := false, narrowed := true }
def VoteLogsUptoSaid : Prop := voteLogsUptoRow.holds Try.pinned (OpenSpec.upto voteLogsSpec)

/-- 'towpathlaw14.VoteTight', WHERE WHAT IT READS IS OF BULK AT MOST 1048576: true; the input reads as it did. -/
def voteTightUptoRow : OpenClaim := { program := "ytjacpjdikhlcoaa", sum := "9fd1ff42c35fdd0ea228d89e56fbab869c9c186001a0035917ceab7ab9ced97b", func := "towpath/towpathlaw14.VoteTight", spec := "voteTight", inPlace := ["maps.clone"], unfollowed := true, recurses := true, plainKeys := false, apart := false, narrowed := true }
def VoteTightUptoSaid : Prop := voteTightUptoRow.holds Try.pinned (OpenSpec.upto voteTightSpec)

/-- 'towpathlaw14.VoteNone', WHERE WHAT IT READS IS OF BULK AT MOST 1048576: true; the input reads as it did. -/
def voteNoneUptoRow : OpenClaim := { program := "ytjacpjdikhlcoaa", sum := "9fd1ff42c35fdd0ea228d89e56fbab869c9c186001a0035917ceab7ab9ced97b", func := "towpath/towpathlaw14.VoteNone", spec := "voteNone", inPlace := ["maps.clone"], unfollowed := true, recurses := true, plainKeys := false, apart := false, narrowed := true }
def VoteNoneUptoSaid : Prop := voteNoneUptoRow.holds Try.pinned (OpenSpec.upto voteNoneSpec)

/-- 'towpathlaw14.VotePlays', WHERE WHAT IT READS IS OF BULK AT MOST 1048576: true; the input reads as it did. -/
def votePlaysUptoRow : OpenClaim := { program := "ytjacpjdikhlcoaa", sum := "9fd1ff42c35fdd0ea228d89e56fbab869c9c186001a0035917ceab7ab9ced97b", func := "towpath/towpathlaw14.VotePlays", spec := "votePlays", inPlace := ["maps.clone"], unfollowed := true, recurses := true, plainKeys := false, apart := false, narrowed := true }
def VotePlaysUptoSaid : Prop := votePlaysUptoRow.holds Try.pinned (OpenSpec.upto votePlaysSpec)

end Rows
end Go.Proofs.Ytjacpjdikhlcoaa
