/-
  DERIVED. GIVEN WITH THE SEED: THE CARDS: each row of YtjdlpipeagjnfaaGreatDoorRows.lean that lists a variable, with what it lists TIED to the program's text (the seventh form; the later family's looks); each row that meets fmt, with fmt's text TOLD by the authors' own Lean function (tested against real Go, not proved from fmt's source: count such statements apart). THE CARD IS WHAT COUNTS. Prove the row's statement (the work); the ties are given (YtjdlpipeagjnfaaGreatDoorTie.lean); close each card by the builder's one call (the guide's Derived/Test/ToyasCard.lean, 'card_holds'). Laid BY PROGRAM, IN A SANDBOX (cutbox-door.mjs). By AI agents, Wed Nov 11 2026. No macro, syntax, notation, axiom, sorry.
-/
import Derived.Test.YtjdlpipeagjnfaaGreatDoorRows
import GoSem.ClaimSeven
namespace Go.Proofs.YtjdlpipeagjnfaaGreatDoor
namespace Rows

/-- THE TIED CARD OF 'palimplaw15.DataOthers'. -/
def dataOthersCard : Claim7 := { stood := { row := dataOthersRow, standIns := [], harness := (true, "a2f7c25e4c2980d8a980d4d43b406021368cc7b3fc6b74c94c3da4e70abb5b5f"), looks := false }, kinds := [], alts := [], laidByText := true, laidKinds := [.data, .pinned], laidTests := true, laidLooks := .later }
def DataOthersCardSaid : Prop := Claim7.holds Tryz.pinned (.plain (OpenSpec.ofChange dataOthersSpec)) dataOthersCard

/-- THE SECOND FORM's CARD OF 'palimplaw15.DataOthers'. -/
def dataOthersUptoCard : Claim7 := { stood := { row := dataOthersUptoRow, standIns := [], harness := (true, "a2f7c25e4c2980d8a980d4d43b406021368cc7b3fc6b74c94c3da4e70abb5b5f"), looks := false }, kinds := [], alts := [], laidByText := true, laidKinds := [.data, .pinned], laidTests := true, laidLooks := .later }
def DataOthersUptoCardSaid : Prop := Claim7.holds Tryz.pinned (.plain (OpenSpec.upto dataOthersSpec)) dataOthersUptoCard
end Rows
end Go.Proofs.YtjdlpipeagjnfaaGreatDoor
