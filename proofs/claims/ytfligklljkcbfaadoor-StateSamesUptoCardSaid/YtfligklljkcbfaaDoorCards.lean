/-
  DERIVED. GIVEN WITH THE SEED: THE CARDS: each row of YtfligklljkcbfaaDoorRows.lean that lists a variable, with what it lists TIED to the program's text (the seventh form; the later family's looks); each row that meets fmt, with fmt's text TOLD by the authors' own Lean function (tested against real Go, not proved from fmt's source: count such statements apart). THE CARD IS WHAT COUNTS. Prove the row's statement (the work); the ties are given (YtfligklljkcbfaaDoorTie.lean); close each card by the builder's one call (the guide's Derived/Test/ToyasCard.lean, 'card_holds'). Laid BY PROGRAM, IN A SANDBOX (cutbox-door.mjs). By AI agents, Wed Nov 11 2026. No macro, syntax, notation, axiom, sorry.
-/
import Derived.Test.YtfligklljkcbfaaDoorRows
import GoSem.ClaimSeven
namespace Go.Proofs.YtfligklljkcbfaaDoor
namespace Rows

/-- THE TIED CARD OF 'towpathlaw16.StateBegins'. -/
def stateBeginsCard : Claim7 := { stood := { row := stateBeginsRow, standIns := [], harness := (true, "e2f9fa1a19412c1e9e9f09bfebce94badfb65fdf50a1a7fee49e35263f5e3841"), looks := true }, kinds := [], alts := [], laidByText := true, laidKinds := [.data], laidTests := true, laidLooks := .later }
def StateBeginsCardSaid : Prop := Claim7.holds Tryd.pinned (.plain (OpenSpec.ofChange stateBeginsSpec)) stateBeginsCard

/-- THE TIED CARD OF 'towpathlaw16.StateLends'. -/
def stateLendsCard : Claim7 := { stood := { row := stateLendsRow, standIns := [], harness := (true, "e2f9fa1a19412c1e9e9f09bfebce94badfb65fdf50a1a7fee49e35263f5e3841"), looks := true }, kinds := [], alts := [], laidByText := true, laidKinds := [.data], laidTests := true, laidLooks := .later }
def StateLendsCardSaid : Prop := Claim7.holds Tryd.pinned (.plain (OpenSpec.ofChange stateLendsSpec)) stateLendsCard

/-- THE TIED CARD OF 'towpathlaw16.StateSames'. -/
def stateSamesCard : Claim7 := { stood := { row := stateSamesRow, standIns := [], harness := (true, "e2f9fa1a19412c1e9e9f09bfebce94badfb65fdf50a1a7fee49e35263f5e3841"), looks := true }, kinds := [], alts := [], laidByText := true, laidKinds := [.data], laidTests := true, laidLooks := .later }
def StateSamesCardSaid : Prop := Claim7.holds Tryd.pinned (.plain (OpenSpec.ofChange stateSamesSpec)) stateSamesCard

/-- THE TIED CARD OF 'towpathlaw16.StateKeys'. -/
def stateKeysCard : Claim7 := { stood := { row := stateKeysRow, standIns := [], harness := (true, "e2f9fa1a19412c1e9e9f09bfebce94badfb65fdf50a1a7fee49e35263f5e3841"), looks := true }, kinds := [], alts := [], laidByText := true, laidKinds := [.data], laidTests := true, laidLooks := .later }
def StateKeysCardSaid : Prop := Claim7.holds Tryd.pinned (.plain (OpenSpec.ofChange stateKeysSpec)) stateKeysCard

/-- THE SECOND FORM's CARD OF 'towpathlaw16.StateBegins'. -/
def stateBeginsUptoCard : Claim7 := { stood := { row := stateBeginsUptoRow, standIns := [], harness := (true, "e2f9fa1a19412c1e9e9f09bfebce94badfb65fdf50a1a7fee49e35263f5e3841"), looks := true }, kinds := [], alts := [], laidByText := true, laidKinds := [.data], laidTests := true, laidLooks := .later }
def StateBeginsUptoCardSaid : Prop := Claim7.holds Tryd.pinned (.plain (OpenSpec.upto stateBeginsSpec)) stateBeginsUptoCard

/-- THE SECOND FORM's CARD OF 'towpathlaw16.StateLends'. -/
def stateLendsUptoCard : Claim7 := { stood := { row := stateLendsUptoRow, standIns := [], harness := (true, "e2f9fa1a19412c1e9e9f09bfebce94badfb65fdf50a1a7fee49e35263f5e3841"), looks := true }, kinds := [], alts := [], laidByText := true, laidKinds := [.data], laidTests := true, laidLooks := .later }
def StateLendsUptoCardSaid : Prop := Claim7.holds Tryd.pinned (.plain (OpenSpec.upto stateLendsSpec)) stateLendsUptoCard

/-- THE SECOND FORM's CARD OF 'towpathlaw16.StateSames'. -/
def stateSamesUptoCard : Claim7 := { stood := { row := stateSamesUptoRow, standIns := [], harness := (true, "e2f9fa1a19412c1e9e9f09bfebce94badfb65fdf50a1a7fee49e35263f5e3841"), looks := true }, kinds := [], alts := [], laidByText := true, laidKinds := [.data], laidTests := true, laidLooks := .later }
def StateSamesUptoCardSaid : Prop := Claim7.holds Tryd.pinned (.plain (OpenSpec.upto stateSamesSpec)) stateSamesUptoCard

/-- THE SECOND FORM's CARD OF 'towpathlaw16.StateKeys'. -/
def stateKeysUptoCard : Claim7 := { stood := { row := stateKeysUptoRow, standIns := [], harness := (true, "e2f9fa1a19412c1e9e9f09bfebce94badfb65fdf50a1a7fee49e35263f5e3841"), looks := true }, kinds := [], alts := [], laidByText := true, laidKinds := [.data], laidTests := true, laidLooks := .later }
def StateKeysUptoCardSaid : Prop := Claim7.holds Tryd.pinned (.plain (OpenSpec.upto stateKeysSpec)) stateKeysUptoCard
end Rows
end Go.Proofs.YtfligklljkcbfaaDoor
