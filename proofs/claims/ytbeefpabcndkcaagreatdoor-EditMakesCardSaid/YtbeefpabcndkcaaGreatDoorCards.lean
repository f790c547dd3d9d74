/-
  DERIVED. GIVEN WITH THE SEED: THE CARDS: each row of YtbeefpabcndkcaaGreatDoorRows.lean that lists a variable, with what it lists TIED to the program's text (the seventh form; the later family's looks); each row that meets fmt, with fmt's text TOLD by the authors' own Lean function (tested against real Go, not proved from fmt's source: count such statements apart). THE CARD IS WHAT COUNTS. Prove the row's statement (the work); the ties are given (YtbeefpabcndkcaaGreatDoorTie.lean); close each card by the builder's one call (the guide's Derived/Test/ToyasCard.lean, 'card_holds'). Laid BY PROGRAM, IN A SANDBOX (cutbox-door.mjs). By AI agents, Wed Nov 11 2026. No macro, syntax, notation, axiom, sorry.
-/
import Derived.Test.YtbeefpabcndkcaaGreatDoorRows
import GoSem.ClaimSeven
namespace Go.Proofs.YtbeefpabcndkcaaGreatDoor
namespace Rows

/-- THE TIED CARD OF 'palimplaw14.EditMoves'. -/
def editMovesCard : Claim7 := { stood := { row := editMovesRow, standIns := [], harness := (true, "97d41f058d4d9c0436c3d763a8de593754d4dcf879994a6eeeade7eea0cd7cd9"), looks := false }, kinds := [], alts := [], laidByText := true, laidKinds := [.data, .pinned], laidTests := true, laidLooks := .later }
def EditMovesCardSaid : Prop := Claim7.holds Tryz.pinned (.plain (OpenSpec.ofChange editMovesSpec)) editMovesCard

/-- THE TIED CARD OF 'palimplaw14.EditMakes'. -/
def editMakesCard : Claim7 := { stood := { row := editMakesRow, standIns := [], harness := (true, "97d41f058d4d9c0436c3d763a8de593754d4dcf879994a6eeeade7eea0cd7cd9"), looks := false }, kinds := [], alts := [], laidByText := true, laidKinds := [.data, .pinned], laidTests := true, laidLooks := .later }
def EditMakesCardSaid : Prop := Claim7.holds Tryz.pinned (.plain (OpenSpec.ofChange editMakesSpec)) editMakesCard

/-- THE TIED CARD OF 'palimplaw14.EditDrops'. -/
def editDropsCard : Claim7 := { stood := { row := editDropsRow, standIns := [], harness := (true, "97d41f058d4d9c0436c3d763a8de593754d4dcf879994a6eeeade7eea0cd7cd9"), looks := false }, kinds := [], alts := [], laidByText := true, laidKinds := [.data, .pinned], laidTests := true, laidLooks := .later }
def EditDropsCardSaid : Prop := Claim7.holds Tryz.pinned (.plain (OpenSpec.ofChange editDropsSpec)) editDropsCard

/-- THE TIED CARD OF 'palimplaw14.EditLoops'. -/
def editLoopsCard : Claim7 := { stood := { row := editLoopsRow, standIns := [], harness := (true, "97d41f058d4d9c0436c3d763a8de593754d4dcf879994a6eeeade7eea0cd7cd9"), looks := false }, kinds := [], alts := [], laidByText := true, laidKinds := [.data, .pinned], laidTests := true, laidLooks := .later }
def EditLoopsCardSaid : Prop := Claim7.holds Tryz.pinned (.plain (OpenSpec.ofChange editLoopsSpec)) editLoopsCard

/-- THE SECOND FORM's CARD OF 'palimplaw14.EditMoves'. -/
def editMovesUptoCard : Claim7 := { stood := { row := editMovesUptoRow, standIns := [], harness := (true, "97d41f058d4d9c0436c3d763a8de593754d4dcf879994a6eeeade7eea0cd7cd9"), looks := false }, kinds := [], alts := [], laidByText := true, laidKinds := [.data, .pinned], laidTests := true, laidLooks := .later }
def EditMovesUptoCardSaid : Prop := Claim7.holds Tryz.pinned (.plain (OpenSpec.upto editMovesSpec)) editMovesUptoCard

/-- THE SECOND FORM's CARD OF 'palimplaw14.EditMakes'. -/
def editMakesUptoCard : Claim7 := { stood := { row := editMakesUptoRow, standIns := [], harness := (true, "97d41f058d4d9c0436c3d763a8de593754d4dcf879994a6eeeade7eea0cd7cd9"), looks := false }, kinds := [], alts := [], laidByText := true, laidKinds := [.data, .pinned], laidTests := true, laidLooks := .later }
def EditMakesUptoCardSaid : Prop := Claim7.holds Tryz.pinned (.plain (OpenSpec.upto editMakesSpec)) editMakesUptoCard

/-- THE SECOND FORM's CARD OF 'palimplaw14.EditDrops'. -/
def editDropsUptoCard : Claim7 := { stood := { row := editDropsUptoRow, standIns := [], harness := (true, "97d41f058d4d9c0436c3d763a8de593754d4dcf879994a6eeeade7eea0cd7cd9"), looks := false }, kinds := [], alts := [], laidByText := true, laidKinds := [.data, .pinned], laidTests := true, laidLooks := .later }
def EditDropsUptoCardSaid : Prop := Claim7.holds Tryz.pinned (.plain (OpenSpec.upto editDropsSpec)) editDropsUptoCard

/-- THE SECOND FORM's CARD OF 'palimplaw14.EditLoops'. -/
def editLoopsUptoCard : Claim7 := { stood := { row := editLoopsUptoRow, standIns := [], harness := (true, "97d41f058d4d9c0436c3d763a8de593754d4dcf879994a6eeeade7eea0cd7cd9"), looks := false }, kinds := [], alts := [], laidByText := true, laidKinds := [.data, .pinned], laidTests := true, laidLooks := .later }
def EditLoopsUptoCardSaid : Prop := Claim7.holds Tryz.pinned (.plain (OpenSpec.upto editLoopsSpec)) editLoopsUptoCard
end Rows
end Go.Proofs.YtbeefpabcndkcaaGreatDoor
