/-
  DERIVED. GIVEN WITH THE SEED: THE CARDS: each row of YtfligklljkcbfaaGreatDoorRows.lean that lists a variable, with what it lists TIED to the program's text (the seventh form; the later family's looks); each row that meets fmt, with fmt's text TOLD by the authors' own Lean function (tested against real Go, not proved from fmt's source: count such statements apart). THE CARD IS WHAT COUNTS. Prove the row's statement (the work); the ties are given (YtfligklljkcbfaaGreatDoorTie.lean); close each card by the builder's one call (the guide's Derived/Test/ToyasCard.lean, 'card_holds'). Laid BY PROGRAM, IN A SANDBOX (cutbox-door.mjs). By AI agents, Wed Nov 11 2026. No macro, syntax, notation, axiom, sorry.
-/
import Derived.Test.YtfligklljkcbfaaGreatDoorRows
import GoSem.ClaimSeven
namespace Go.Proofs.YtfligklljkcbfaaGreatDoor
namespace Rows

/-- THE TIED CARD OF 'towpathlaw16.StateFolds'. -/
def stateFoldsCard : Claim7 := { stood := { row := stateFoldsRow, standIns := [], harness := (true, "cb8ed355095ad053d9ac1fde473d09fae3475b527e1f851ec078eb66004a3f65"), looks := true }, kinds := [], alts := [], laidByText := true, laidKinds := [.data], laidTests := true, laidLooks := .later }
def StateFoldsCardSaid : Prop := Claim7.holds Tryz.pinned (.plain (OpenSpec.ofChange stateFoldsSpec)) stateFoldsCard

/-- THE TIED CARD OF 'towpathlaw16.StateSick'. -/
def stateSickCard : Claim7 := { stood := { row := stateSickRow, standIns := [], harness := (true, "cb8ed355095ad053d9ac1fde473d09fae3475b527e1f851ec078eb66004a3f65"), looks := true }, kinds := [], alts := [], laidByText := true, laidKinds := [.data], laidTests := true, laidLooks := .later }
def StateSickCardSaid : Prop := Claim7.holds Tryz.pinned (.plain (OpenSpec.ofChange stateSickSpec)) stateSickCard

/-- THE TIED CARD OF 'towpathlaw16.StateLooks'. -/
def stateLooksCard : Claim7 := { stood := { row := stateLooksRow, standIns := [], harness := (true, "cb8ed355095ad053d9ac1fde473d09fae3475b527e1f851ec078eb66004a3f65"), looks := true }, kinds := [], alts := [], laidByText := true, laidKinds := [.data], laidTests := true, laidLooks := .later }
def StateLooksCardSaid : Prop := Claim7.holds Tryz.pinned (.plain (OpenSpec.ofChange stateLooksSpec)) stateLooksCard

/-- THE SECOND FORM's CARD OF 'towpathlaw16.StateFolds'. -/
def stateFoldsUptoCard : Claim7 := { stood := { row := stateFoldsUptoRow, standIns := [], harness := (true, "cb8ed355095ad053d9ac1fde473d09fae3475b527e1f851ec078eb66004a3f65"), looks := true }, kinds := [], alts := [], laidByText := true, laidKinds := [.data], laidTests := true, laidLooks := .later }
def StateFoldsUptoCardSaid : Prop := Claim7.holds Tryz.pinned (.plain (OpenSpec.upto stateFoldsSpec)) stateFoldsUptoCard

/-- THE SECOND FORM's CARD OF 'towpathlaw16.StateSick'. -/
def stateSickUptoCard : Claim7 := { stood := { row := stateSickUptoRow, standIns := [], harness := (true, "cb8ed355095ad053d9ac1fde473d09fae3475b527e1f851ec078eb66004a3f65"), looks := true }, kinds := [], alts := [], laidByText := true, laidKinds := [.data], laidTests := true, laidLooks := .later }
def StateSickUptoCardSaid : Prop := Claim7.holds Tryz.pinned (.plain (OpenSpec.upto stateSickSpec)) stateSickUptoCard

/-- THE SECOND FORM's CARD OF 'towpathlaw16.StateLooks'. -/
def stateLooksUptoCard : Claim7 := { stood := { row := stateLooksUptoRow, standIns := [], harness := (true, "cb8ed355095ad053d9ac1fde473d09fae3475b527e1f851ec078eb66004a3f65"), looks := true }, kinds := [], alts := [], laidByText := true, laidKinds := [.data], laidTests := true, laidLooks := .later }
def StateLooksUptoCardSaid : Prop := Claim7.holds Tryz.pinned (.plain (OpenSpec.upto stateLooksSpec)) stateLooksUptoCard
end Rows
end Go.Proofs.YtfligklljkcbfaaGreatDoor
