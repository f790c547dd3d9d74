/-
  DERIVED. GIVEN WITH THE SEED: THE CARDS: each row of YtpfbnghalpfoaaaGreatDoorRows.lean that lists a variable, with what it lists TIED to the program's text (the seventh form; the later family's looks); each row that meets fmt, with fmt's text TOLD by the authors' own Lean function (tested against real Go, not proved from fmt's source: count such statements apart). THE CARD IS WHAT COUNTS. Prove the row's statement (the work); the ties are given (YtpfbnghalpfoaaaGreatDoorTie.lean); close each card by the builder's one call (the guide's Derived/Test/ToyasCard.lean, 'card_holds'). Laid BY PROGRAM, IN A SANDBOX (cutbox-door.mjs). By AI agents, Wed Nov 11 2026. No macro, syntax, notation, axiom, sorry.
-/
import Derived.Test.YtpfbnghalpfoaaaGreatDoorRows
import GoSem.ClaimSeven
namespace Go.Proofs.YtpfbnghalpfoaaaGreatDoor
namespace Rows

/-- THE TIED CARD OF 'palimplaw12.NodeAll'. -/
def nodeAllCard : Claim7 := { stood := { row := nodeAllRow, standIns := [], harness := (true, "337ae8686a45b00002cf5a3076fde0dc222a5405b07d48a8e384fdbe1eb7b293"), looks := false }, kinds := [], alts := [], laidByText := true, laidKinds := [.data, .data, .data], laidTests := true, laidLooks := .later }
def NodeAllCardSaid : Prop := Claim7.holds Tryz.pinned (.plain (OpenSpec.ofChange nodeAllSpec)) nodeAllCard

/-- THE SECOND FORM's CARD OF 'palimplaw12.NodeAll'. -/
def nodeAllUptoCard : Claim7 := { stood := { row := nodeAllUptoRow, standIns := [], harness := (true, "337ae8686a45b00002cf5a3076fde0dc222a5405b07d48a8e384fdbe1eb7b293"), looks := false }, kinds := [], alts := [], laidByText := true, laidKinds := [.data, .data, .data], laidTests := true, laidLooks := .later }
def NodeAllUptoCardSaid : Prop := Claim7.holds Tryz.pinned (.plain (OpenSpec.upto nodeAllSpec)) nodeAllUptoCard
end Rows
end Go.Proofs.YtpfbnghalpfoaaaGreatDoor
