/-
  DERIVED. GIVEN WITH THE SEED: THE CARDS: each row of YtlcclhkbmkmfkaaDoorRows.lean that lists a variable, with what it lists TIED to the program's text (the seventh form; the later family's looks); each row that meets fmt, with fmt's text TOLD by the authors' own Lean function (tested against real Go, not proved from fmt's source: count such statements apart). THE CARD IS WHAT COUNTS. Prove the row's statement (the work); the ties are given (YtlcclhkbmkmfkaaDoorTie.lean); close each card by the builder's one call (the guide's Derived/Test/ToyasCard.lean, 'card_holds'). Laid BY PROGRAM, IN A SANDBOX (cutbox-door.mjs). By AI agents, Wed Nov 11 2026. No macro, syntax, notation, axiom, sorry.
-/
import Derived.Test.YtlcclhkbmkmfkaaDoorRows
import GoSem.ClaimSeven
namespace Go.Proofs.YtlcclhkbmkmfkaaDoor
namespace Rows

/-- THE TIED CARD OF 'palimplaw14.EditOld'. -/
def editOldCard : Claim7 := { stood := { row := editOldRow, standIns := [], harness := (true, "6b86d12ffb117a9821f6fa38b1008ebec4708d3cd44cf736d85ca5b8767e1596"), looks := false }, kinds := [], alts := [], laidByText := true, laidKinds := [.data, .pinned], laidTests := true, laidLooks := .later }
def EditOldCardSaid : Prop := Claim7.holds Tryd.pinned (.plain (OpenSpec.ofChange editOldSpec)) editOldCard

/-- THE SECOND FORM's CARD OF 'palimplaw14.EditOld'. -/
def editOldUptoCard : Claim7 := { stood := { row := editOldUptoRow, standIns := [], harness := (true, "6b86d12ffb117a9821f6fa38b1008ebec4708d3cd44cf736d85ca5b8767e1596"), looks := false }, kinds := [], alts := [], laidByText := true, laidKinds := [.data, .pinned], laidTests := true, laidLooks := .later }
def EditOldUptoCardSaid : Prop := Claim7.holds Tryd.pinned (.plain (OpenSpec.upto editOldSpec)) editOldUptoCard
end Rows
end Go.Proofs.YtlcclhkbmkmfkaaDoor
