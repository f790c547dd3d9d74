/-
  DERIVED. GIVEN WITH THE SEED: THE CARDS: each row of YtpfbnghalpfoaaaDoorRows.lean that lists a variable, with what it lists TIED to the program's text (the seventh form; the later family's looks); each row that meets fmt, with fmt's text TOLD by the authors' own Lean function (tested against real Go, not proved from fmt's source: count such statements apart). THE CARD IS WHAT COUNTS. Prove the row's statement (the work); the ties are given (YtpfbnghalpfoaaaDoorTie.lean); close each card by the builder's one call (the guide's Derived/Test/ToyasCard.lean, 'card_holds'). Laid BY PROGRAM, IN A SANDBOX (cutbox-door.mjs). By AI agents, Wed Nov 11 2026. No macro, syntax, notation, axiom, sorry.
-/
import Derived.Test.YtpfbnghalpfoaaaDoorRows
import GoSem.ClaimSeven
namespace Go.Proofs.YtpfbnghalpfoaaaDoor
namespace Rows

/-- THE TIED CARD OF 'palimplaw12.NodeTree'. -/
def nodeTreeCard : Claim7 := { stood := { row := nodeTreeRow, standIns := [], harness := (true, "d878459c5f247dde1c2ec9798006b628be38eefc4a6bc9c8a41ec99f015d7e08"), looks := false }, kinds := [], alts := [], laidByText := true, laidKinds := [.data, .data, .data], laidTests := true, laidLooks := .later }
def NodeTreeCardSaid : Prop := Claim7.holds Tryd.pinned (.plain (OpenSpec.ofChange nodeTreeSpec)) nodeTreeCard

/-- THE TIED CARD OF 'palimplaw12.NodeForms'. -/
def nodeFormsCard : Claim7 := { stood := { row := nodeFormsRow, standIns := [], harness := (true, "d878459c5f247dde1c2ec9798006b628be38eefc4a6bc9c8a41ec99f015d7e08"), looks := false }, kinds := [], alts := [], laidByText := true, laidKinds := [.data, .data, .data], laidTests := true, laidLooks := .later }
def NodeFormsCardSaid : Prop := Claim7.holds Tryd.pinned (.plain (OpenSpec.ofChange nodeFormsSpec)) nodeFormsCard

/-- THE TIED CARD OF 'palimplaw12.NodeLost'. -/
def nodeLostCard : Claim7 := { stood := { row := nodeLostRow, standIns := [], harness := (true, "d878459c5f247dde1c2ec9798006b628be38eefc4a6bc9c8a41ec99f015d7e08"), looks := false }, kinds := [], alts := [], laidByText := true, laidKinds := [.data, .data, .data], laidTests := true, laidLooks := .later }
def NodeLostCardSaid : Prop := Claim7.holds Tryd.pinned (.plain (OpenSpec.ofChange nodeLostSpec)) nodeLostCard

/-- THE TIED CARD OF 'palimplaw12.NodeFull'. -/
def nodeFullCard : Claim7 := { stood := { row := nodeFullRow, standIns := [], harness := (true, "d878459c5f247dde1c2ec9798006b628be38eefc4a6bc9c8a41ec99f015d7e08"), looks := false }, kinds := [], alts := [], laidByText := true, laidKinds := [.data, .data, .data], laidTests := true, laidLooks := .later }
def NodeFullCardSaid : Prop := Claim7.holds Tryd.pinned (.plain (OpenSpec.ofChange nodeFullSpec)) nodeFullCard

/-- THE SECOND FORM's CARD OF 'palimplaw12.NodeTree'. -/
def nodeTreeUptoCard : Claim7 := { stood := { row := nodeTreeUptoRow, standIns := [], harness := (true, "d878459c5f247dde1c2ec9798006b628be38eefc4a6bc9c8a41ec99f015d7e08"), looks := false }, kinds := [], alts := [], laidByText := true, laidKinds := [.data, .data, .data], laidTests := true, laidLooks := .later }
def NodeTreeUptoCardSaid : Prop := Claim7.holds Tryd.pinned (.plain (OpenSpec.upto nodeTreeSpec)) nodeTreeUptoCard

/-- THE SECOND FORM's CARD OF 'palimplaw12.NodeForms'. -/
def nodeFormsUptoCard : Claim7 := { stood := { row := nodeFormsUptoRow, standIns := [], harness := (true, "d878459c5f247dde1c2ec9798006b628be38eefc4a6bc9c8a41ec99f015d7e08"), looks := false }, kinds := [], alts := [], laidByText := true, laidKinds := [.data, .data, .data], laidTests := true, laidLooks := .later }
def NodeFormsUptoCardSaid : Prop := Claim7.holds Tryd.pinned (.plain (OpenSpec.upto nodeFormsSpec)) nodeFormsUptoCard

/-- THE SECOND FORM's CARD OF 'palimplaw12.NodeLost'. -/
def nodeLostUptoCard : Claim7 := { stood := { row := nodeLostUptoRow, standIns := [], harness := (true, "d878459c5f247dde1c2ec9798006b628be38eefc4a6bc9c8a41ec99f015d7e08"), looks := false }, kinds := [], alts := [], laidByText := true, laidKinds := [.data, .data, .data], laidTests := true, laidLooks := .later }
def NodeLostUptoCardSaid : Prop := Claim7.holds Tryd.pinned (.plain (OpenSpec.upto nodeLostSpec)) nodeLostUptoCard

/-- THE SECOND FORM's CARD OF 'palimplaw12.NodeFull'. -/
def nodeFullUptoCard : Claim7 := { stood := { row := nodeFullUptoRow, standIns := [], harness := (true, "d878459c5f247dde1c2ec9798006b628be38eefc4a6bc9c8a41ec99f015d7e08"), looks := false }, kinds := [], alts := [], laidByText := true, laidKinds := [.data, .data, .data], laidTests := true, laidLooks := .later }
def NodeFullUptoCardSaid : Prop := Claim7.holds Tryd.pinned (.plain (OpenSpec.upto nodeFullSpec)) nodeFullUptoCard
end Rows
end Go.Proofs.YtpfbnghalpfoaaaDoor
