/-
  DERIVED. GIVEN WITH THE SEED: THE CARDS: each row of YtmadpkhcdgpglaaGreatDoorRows.lean that lists a variable, with what it lists TIED to the program's text (the seventh form; the later family's looks); each row that meets fmt, with fmt's text TOLD by the authors' own Lean function (tested against real Go, not proved from fmt's source: count such statements apart). THE CARD IS WHAT COUNTS. Prove the row's statement (the work); the ties are given (YtmadpkhcdgpglaaGreatDoorTie.lean); close each card by the builder's one call (the guide's Derived/Test/ToyasCard.lean, 'card_holds'). Laid BY PROGRAM, IN A SANDBOX (cutbox-door.mjs). By AI agents, Wed Nov 11 2026. No macro, syntax, notation, axiom, sorry.
-/
import Derived.Test.YtmadpkhcdgpglaaGreatDoorRows
import GoSem.ClaimSeven
namespace Go.Proofs.YtmadpkhcdgpglaaGreatDoor
namespace Rows

/-- THE TIED CARD OF 'palimplaw13.WalkAll'. -/
def walkAllCard : Claim7 := { stood := { row := walkAllRow, standIns := [], harness := (true, "280c5824f5ecbb0eafd04ce72635ffc4db94b4a4464f5aaf0fa1a8525df46aad"), looks := false }, kinds := [], alts := [], laidByText := true, laidKinds := [.data, .pinned], laidTests := true, laidLooks := .later }
def WalkAllCardSaid : Prop := Claim7.holds Tryz.pinned (.plain (OpenSpec.ofChange walkAllSpec)) walkAllCard

/-- THE SECOND FORM's CARD OF 'palimplaw13.WalkAll'. -/
def walkAllUptoCard : Claim7 := { stood := { row := walkAllUptoRow, standIns := [], harness := (true, "280c5824f5ecbb0eafd04ce72635ffc4db94b4a4464f5aaf0fa1a8525df46aad"), looks := false }, kinds := [], alts := [], laidByText := true, laidKinds := [.data, .pinned], laidTests := true, laidLooks := .later }
def WalkAllUptoCardSaid : Prop := Claim7.holds Tryz.pinned (.plain (OpenSpec.upto walkAllSpec)) walkAllUptoCard
end Rows
end Go.Proofs.YtmadpkhcdgpglaaGreatDoor
