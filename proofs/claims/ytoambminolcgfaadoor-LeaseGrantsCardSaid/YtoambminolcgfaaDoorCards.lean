/-
  DERIVED. GIVEN WITH THE SEED: THE CARDS: each row of YtoambminolcgfaaDoorRows.lean that lists a variable, with what it lists TIED to the program's text (the seventh form; the later family's looks); each row that meets fmt, with fmt's text TOLD by the authors' own Lean function (tested against real Go, not proved from fmt's source: count such statements apart). THE CARD IS WHAT COUNTS. Prove the row's statement (the work); the ties are given (YtoambminolcgfaaDoorTie.lean); close each card by the builder's one call (the guide's Derived/Test/ToyasCard.lean, 'card_holds'). Laid BY PROGRAM, IN A SANDBOX (cutbox-door.mjs). By AI agents, Wed Nov 11 2026. No macro, syntax, notation, axiom, sorry.
-/
import Derived.Test.YtoambminolcgfaaDoorRows
import GoSem.ClaimSeven
namespace Go.Proofs.YtoambminolcgfaaDoor
namespace Rows

/-- THE TIED CARD OF 'towpathlaw12.LeaseFull'. -/
def leaseFullCard : Claim7 := { stood := { row := leaseFullRow, standIns := [], harness := (true, "560e2b96eb32e5a94babdb9240091338a246cd51ba0e17041370c542afd6e565"), looks := true }, kinds := [], alts := [], laidByText := true, laidKinds := [.data], laidTests := true, laidLooks := .later }
def LeaseFullCardSaid : Prop := Claim7.holds Tryd.pinned (.plain (OpenSpec.ofChange leaseFullSpec)) leaseFullCard

/-- THE TIED CARD OF 'towpathlaw12.LeaseApart'. -/
def leaseApartCard : Claim7 := { stood := { row := leaseApartRow, standIns := [], harness := (true, "560e2b96eb32e5a94babdb9240091338a246cd51ba0e17041370c542afd6e565"), looks := true }, kinds := [], alts := [], laidByText := true, laidKinds := [.data], laidTests := true, laidLooks := .later }
def LeaseApartCardSaid : Prop := Claim7.holds Tryd.pinned (.plain (OpenSpec.ofChange leaseApartSpec)) leaseApartCard

/-- THE TIED CARD OF 'towpathlaw12.LeaseFinds'. -/
def leaseFindsCard : Claim7 := { stood := { row := leaseFindsRow, standIns := [], harness := (true, "560e2b96eb32e5a94babdb9240091338a246cd51ba0e17041370c542afd6e565"), looks := true }, kinds := [], alts := [], laidByText := true, laidKinds := [.data], laidTests := true, laidLooks := .later }
def LeaseFindsCardSaid : Prop := Claim7.holds Tryd.pinned (.plain (OpenSpec.ofChange leaseFindsSpec)) leaseFindsCard

/-- THE TIED CARD OF 'towpathlaw12.LeaseBorders'. -/
def leaseBordersCard : Claim7 := { stood := { row := leaseBordersRow, standIns := [], harness := (true, "560e2b96eb32e5a94babdb9240091338a246cd51ba0e17041370c542afd6e565"), looks := true }, kinds := [], alts := [], laidByText := true, laidKinds := [.data], laidTests := true, laidLooks := .later }
def LeaseBordersCardSaid : Prop := Claim7.holds Tryd.pinned (.plain (OpenSpec.ofChange leaseBordersSpec)) leaseBordersCard

/-- THE TIED CARD OF 'towpathlaw12.LeaseGrants'. -/
def leaseGrantsCard : Claim7 := { stood := { row := leaseGrantsRow, standIns := [], harness := (true, "560e2b96eb32e5a94babdb9240091338a246cd51ba0e17041370c542afd6e565"), looks := true }, kinds := [], alts := [], laidByText := true, laidKinds := [.data], laidTests := true, laidLooks := .later }
def LeaseGrantsCardSaid : Prop := Claim7.holds Tryd.pinned (.plain (OpenSpec.ofChange leaseGrantsSpec)) leaseGrantsCard

/-- THE TIED CARD OF 'towpathlaw12.LeaseAlone'. -/
def leaseAloneCard : Claim7 := { stood := { row := leaseAloneRow, standIns := [], harness := (true, "560e2b96eb32e5a94babdb9240091338a246cd51ba0e17041370c542afd6e565"), looks := true }, kinds := [], alts := [], laidByText := true, laidKinds := [.data], laidTests := true, laidLooks := .later }
def LeaseAloneCardSaid : Prop := Claim7.holds Tryd.pinned (.plain (OpenSpec.ofChange leaseAloneSpec)) leaseAloneCard

/-- THE SECOND FORM's CARD OF 'towpathlaw12.LeaseFull'. -/
def leaseFullUptoCard : Claim7 := { stood := { row := leaseFullUptoRow, standIns := [], harness := (true, "560e2b96eb32e5a94babdb9240091338a246cd51ba0e17041370c542afd6e565"), looks := true }, kinds := [], alts := [], laidByText := true, laidKinds := [.data], laidTests := true, laidLooks := .later }
def LeaseFullUptoCardSaid : Prop := Claim7.holds Tryd.pinned (.plain (OpenSpec.upto leaseFullSpec)) leaseFullUptoCard

/-- THE SECOND FORM's CARD OF 'towpathlaw12.LeaseApart'. -/
def leaseApartUptoCard : Claim7 := { stood := { row := leaseApartUptoRow, standIns := [], harness := (true, "560e2b96eb32e5a94babdb9240091338a246cd51ba0e17041370c542afd6e565"), looks := true }, kinds := [], alts := [], laidByText := true, laidKinds := [.data], laidTests := true, laidLooks := .later }
def LeaseApartUptoCardSaid : Prop := Claim7.holds Tryd.pinned (.plain (OpenSpec.upto leaseApartSpec)) leaseApartUptoCard

/-- THE SECOND FORM's CARD OF 'towpathlaw12.LeaseFinds'. -/
def leaseFindsUptoCard : Claim7 := { stood := { row := leaseFindsUptoRow, standIns := [], harness := (true, "560e2b96eb32e5a94babdb9240091338a246cd51ba0e17041370c542afd6e565"), looks := true }, kinds := [], alts := [], laidByText := true, laidKinds := [.data], laidTests := true, laidLooks := .later }
def LeaseFindsUptoCardSaid : Prop := Claim7.holds Tryd.pinned (.plain (OpenSpec.upto leaseFindsSpec)) leaseFindsUptoCard

/-- THE SECOND FORM's CARD OF 'towpathlaw12.LeaseBorders'. -/
def leaseBordersUptoCard : Claim7 := { stood := { row := leaseBordersUptoRow, standIns := [], harness := (true, "560e2b96eb32e5a94babdb9240091338a246cd51ba0e17041370c542afd6e565"), looks := true }, kinds := [], alts := [], laidByText := true, laidKinds := [.data], laidTests := true, laidLooks := .later }
def LeaseBordersUptoCardSaid : Prop := Claim7.holds Tryd.pinned (.plain (OpenSpec.upto leaseBordersSpec)) leaseBordersUptoCard

/-- THE SECOND FORM's CARD OF 'towpathlaw12.LeaseGrants'. -/
def leaseGrantsUptoCard : Claim7 := { stood := { row := leaseGrantsUptoRow, standIns := [], harness := (true, "560e2b96eb32e5a94babdb9240091338a246cd51ba0e17041370c542afd6e565"), looks := true }, kinds := [], alts := [], laidByText := true, laidKinds := [.data], laidTests := true, laidLooks := .later }
def LeaseGrantsUptoCardSaid : Prop := Claim7.holds Tryd.pinned (.plain (OpenSpec.upto leaseGrantsSpec)) leaseGrantsUptoCard

/-- THE SECOND FORM's CARD OF 'towpathlaw12.LeaseAlone'. -/
def leaseAloneUptoCard : Claim7 := { stood := { row := leaseAloneUptoRow, standIns := [], harness := (true, "560e2b96eb32e5a94babdb9240091338a246cd51ba0e17041370c542afd6e565"), looks := true }, kinds := [], alts := [], laidByText := true, laidKinds := [.data], laidTests := true, laidLooks := .later }
def LeaseAloneUptoCardSaid : Prop := Claim7.holds Tryd.pinned (.plain (OpenSpec.upto leaseAloneSpec)) leaseAloneUptoCard
end Rows
end Go.Proofs.YtoambminolcgfaaDoor
