/-
  DERIVED. GIVEN WITH THE SEED: THE CARDS: each row of YtbeefpabcndkcaaDoorRows.lean that lists a variable, with what it lists TIED to the program's text (the seventh form; the later family's looks); each row that meets fmt, with fmt's text TOLD by the authors' own Lean function (tested against real Go, not proved from fmt's source: count such statements apart). THE CARD IS WHAT COUNTS. Prove the row's statement (the work); the ties are given (YtbeefpabcndkcaaDoorTie.lean); close each card by the builder's one call (the guide's Derived/Test/ToyasCard.lean, 'card_holds'). Laid BY PROGRAM, IN A SANDBOX (cutbox-door.mjs). By AI agents, Wed Nov 11 2026. No macro, syntax, notation, axiom, sorry.
-/
import Derived.Test.YtbeefpabcndkcaaDoorRows
import GoSem.ClaimSeven
namespace Go.Proofs.YtbeefpabcndkcaaDoor
namespace Rows

/-- THE TIED CARD OF 'palimplaw14.EditAll'. -/
def editAllCard : Claim7 := { stood := { row := editAllRow, standIns := [], harness := (true, "377fe85584859702e0577cc22cb715229f91d709deea71bd3384a3d18d58a64f"), looks := false }, kinds := [], alts := [], laidByText := true, laidKinds := [.data, .pinned], laidTests := true, laidLooks := .later }
def EditAllCardSaid : Prop := Claim7.holds Tryd.pinned (.plain (OpenSpec.ofChange editAllSpec)) editAllCard

/-- THE TIED CARD OF 'palimplaw14.EditMay'. -/
def editMayCard : Claim7 := { stood := { row := editMayRow, standIns := [], harness := (true, "377fe85584859702e0577cc22cb715229f91d709deea71bd3384a3d18d58a64f"), looks := false }, kinds := [], alts := [], laidByText := true, laidKinds := [.data, .pinned], laidTests := true, laidLooks := .later }
def EditMayCardSaid : Prop := Claim7.holds Tryd.pinned (.plain (OpenSpec.ofChange editMaySpec)) editMayCard

/-- THE TIED CARD OF 'palimplaw14.EditForms'. -/
def editFormsCard : Claim7 := { stood := { row := editFormsRow, standIns := [], harness := (true, "377fe85584859702e0577cc22cb715229f91d709deea71bd3384a3d18d58a64f"), looks := false }, kinds := [], alts := [], laidByText := true, laidKinds := [.data, .pinned], laidTests := true, laidLooks := .later }
def EditFormsCardSaid : Prop := Claim7.holds Tryd.pinned (.plain (OpenSpec.ofChange editFormsSpec)) editFormsCard

/-- THE TIED CARD OF 'palimplaw14.EditOld'. -/
def editOldCard : Claim7 := { stood := { row := editOldRow, standIns := [], harness := (true, "377fe85584859702e0577cc22cb715229f91d709deea71bd3384a3d18d58a64f"), looks := false }, kinds := [], alts := [], laidByText := true, laidKinds := [.data, .pinned], laidTests := true, laidLooks := .later }
def EditOldCardSaid : Prop := Claim7.holds Tryd.pinned (.plain (OpenSpec.ofChange editOldSpec)) editOldCard

/-- THE SECOND FORM's CARD OF 'palimplaw14.EditAll'. -/
def editAllUptoCard : Claim7 := { stood := { row := editAllUptoRow, standIns := [], harness := (true, "377fe85584859702e0577cc22cb715229f91d709deea71bd3384a3d18d58a64f"), looks := false }, kinds := [], alts := [], laidByText := true, laidKinds := [.data, .pinned], laidTests := true, laidLooks := .later }
def EditAllUptoCardSaid : Prop := Claim7.holds Tryd.pinned (.plain (OpenSpec.upto editAllSpec)) editAllUptoCard

/-- THE SECOND FORM's CARD OF 'palimplaw14.EditMay'. -/
def editMayUptoCard : Claim7 := { stood := { row := editMayUptoRow, standIns := [], harness := (true, "377fe85584859702e0577cc22cb715229f91d709deea71bd3384a3d18d58a64f"), looks := false }, kinds := [], alts := [], laidByText := true, laidKinds := [.data, .pinned], laidTests := true, laidLooks := .later }
def EditMayUptoCardSaid : Prop := Claim7.holds Tryd.pinned (.plain (OpenSpec.upto editMaySpec)) editMayUptoCard

/-- THE SECOND FORM's CARD OF 'palimplaw14.EditForms'. -/
def editFormsUptoCard : Claim7 := { stood := { row := editFormsUptoRow, standIns := [], harness := (true, "377fe85584859702e0577cc22cb715229f91d709deea71bd3384a3d18d58a64f"), looks := false }, kinds := [], alts := [], laidByText := true, laidKinds := [.data, .pinned], laidTests := true, laidLooks := .later }
def EditFormsUptoCardSaid : Prop := Claim7.holds Tryd.pinned (.plain (OpenSpec.upto editFormsSpec)) editFormsUptoCard

/-- THE SECOND FORM's CARD OF 'palimplaw14.EditOld'. -/
def editOldUptoCard : Claim7 := { stood := { row := editOldUptoRow, standIns := [], harness := (true, "377fe85584859702e0577cc22cb715229f91d709deea71bd3384a3d18d58a64f"), looks := false }, kinds := [], alts := [], laidByText := true, laidKinds := [.data, .pinned], laidTests := true, laidLooks := .later }
def EditOldUptoCardSaid : Prop := Claim7.holds Tryd.pinned (.plain (OpenSpec.upto editOldSpec)) editOldUptoCard
end Rows
end Go.Proofs.YtbeefpabcndkcaaDoor
