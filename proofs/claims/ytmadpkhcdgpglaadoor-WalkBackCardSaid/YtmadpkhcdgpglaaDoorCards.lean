/-
  DERIVED. GIVEN WITH THE SEED: THE CARDS: each row of YtmadpkhcdgpglaaDoorRows.lean that lists a variable, with what it lists TIED to the program's text (the seventh form; the later family's looks); each row that meets fmt, with fmt's text TOLD by the authors' own Lean function (tested against real Go, not proved from fmt's source: count such statements apart). THE CARD IS WHAT COUNTS. Prove the row's statement (the work); the ties are given (YtmadpkhcdgpglaaDoorTie.lean); close each card by the builder's one call (the guide's Derived/Test/ToyasCard.lean, 'card_holds'). Laid BY PROGRAM, IN A SANDBOX (cutbox-door.mjs). By AI agents, Wed Nov 11 2026. No macro, syntax, notation, axiom, sorry.
-/
import Derived.Test.YtmadpkhcdgpglaaDoorRows
import GoSem.ClaimSeven
namespace Go.Proofs.YtmadpkhcdgpglaaDoor
namespace Rows

/-- THE TIED CARD OF 'palimplaw13.WalkBack'. -/
def walkBackCard : Claim7 := { stood := { row := walkBackRow, standIns := [], harness := (true, "a7a8217380d5bca33008685b3806a512ae7a5be4330d14eb215d527043b92130"), looks := false }, kinds := [], alts := [], laidByText := true, laidKinds := [.data, .pinned], laidTests := true, laidLooks := .later }
def WalkBackCardSaid : Prop := Claim7.holds Tryd.pinned (.plain (OpenSpec.ofChange walkBackSpec)) walkBackCard

/-- THE TIED CARD OF 'palimplaw13.WalkLost'. -/
def walkLostCard : Claim7 := { stood := { row := walkLostRow, standIns := [], harness := (true, "a7a8217380d5bca33008685b3806a512ae7a5be4330d14eb215d527043b92130"), looks := false }, kinds := [], alts := [], laidByText := true, laidKinds := [.data, .pinned], laidTests := true, laidLooks := .later }
def WalkLostCardSaid : Prop := Claim7.holds Tryd.pinned (.plain (OpenSpec.ofChange walkLostSpec)) walkLostCard

/-- THE TIED CARD OF 'palimplaw13.WalkUp'. -/
def walkUpCard : Claim7 := { stood := { row := walkUpRow, standIns := [], harness := (true, "a7a8217380d5bca33008685b3806a512ae7a5be4330d14eb215d527043b92130"), looks := false }, kinds := [], alts := [], laidByText := true, laidKinds := [.data, .pinned], laidTests := true, laidLooks := .later }
def WalkUpCardSaid : Prop := Claim7.holds Tryd.pinned (.plain (OpenSpec.ofChange walkUpSpec)) walkUpCard

/-- THE TIED CARD OF 'palimplaw13.WalkIn'. -/
def walkInCard : Claim7 := { stood := { row := walkInRow, standIns := [], harness := (true, "a7a8217380d5bca33008685b3806a512ae7a5be4330d14eb215d527043b92130"), looks := false }, kinds := [], alts := [], laidByText := true, laidKinds := [.data, .pinned], laidTests := true, laidLooks := .later }
def WalkInCardSaid : Prop := Claim7.holds Tryd.pinned (.plain (OpenSpec.ofChange walkInSpec)) walkInCard

/-- THE SECOND FORM's CARD OF 'palimplaw13.WalkBack'. -/
def walkBackUptoCard : Claim7 := { stood := { row := walkBackUptoRow, standIns := [], harness := (true, "a7a8217380d5bca33008685b3806a512ae7a5be4330d14eb215d527043b92130"), looks := false }, kinds := [], alts := [], laidByText := true, laidKinds := [.data, .pinned], laidTests := true, laidLooks := .later }
def WalkBackUptoCardSaid : Prop := Claim7.holds Tryd.pinned (.plain (OpenSpec.upto walkBackSpec)) walkBackUptoCard

/-- THE SECOND FORM's CARD OF 'palimplaw13.WalkLost'. -/
def walkLostUptoCard : Claim7 := { stood := { row := walkLostUptoRow, standIns := [], harness := (true, "a7a8217380d5bca33008685b3806a512ae7a5be4330d14eb215d527043b92130"), looks := false }, kinds := [], alts := [], laidByText := true, laidKinds := [.data, .pinned], laidTests := true, laidLooks := .later }
def WalkLostUptoCardSaid : Prop := Claim7.holds Tryd.pinned (.plain (OpenSpec.upto walkLostSpec)) walkLostUptoCard

/-- THE SECOND FORM's CARD OF 'palimplaw13.WalkUp'. -/
def walkUpUptoCard : Claim7 := { stood := { row := walkUpUptoRow, standIns := [], harness := (true, "a7a8217380d5bca33008685b3806a512ae7a5be4330d14eb215d527043b92130"), looks := false }, kinds := [], alts := [], laidByText := true, laidKinds := [.data, .pinned], laidTests := true, laidLooks := .later }
def WalkUpUptoCardSaid : Prop := Claim7.holds Tryd.pinned (.plain (OpenSpec.upto walkUpSpec)) walkUpUptoCard

/-- THE SECOND FORM's CARD OF 'palimplaw13.WalkIn'. -/
def walkInUptoCard : Claim7 := { stood := { row := walkInUptoRow, standIns := [], harness := (true, "a7a8217380d5bca33008685b3806a512ae7a5be4330d14eb215d527043b92130"), looks := false }, kinds := [], alts := [], laidByText := true, laidKinds := [.data, .pinned], laidTests := true, laidLooks := .later }
def WalkInUptoCardSaid : Prop := Claim7.holds Tryd.pinned (.plain (OpenSpec.upto walkInSpec)) walkInUptoCard
end Rows
end Go.Proofs.YtmadpkhcdgpglaaDoor
