/-
  DERIVED. GIVEN WITH THE SEED: THE CARDS: each row of YtiolemkcnkokaaaGreatDoorRows.lean that lists a variable, with what it lists TIED to the program's text (the seventh form; the later family's looks); each row that meets fmt, with fmt's text TOLD by the authors' own Lean function (tested against real Go, not proved from fmt's source: count such statements apart). THE CARD IS WHAT COUNTS. Prove the row's statement (the work); the ties are given (YtiolemkcnkokaaaGreatDoorTie.lean); close each card by the builder's one call (the guide's Derived/Test/ToyasCard.lean, 'card_holds'). Laid BY PROGRAM, IN A SANDBOX (cutbox-door.mjs). By AI agents, Wed Nov 11 2026. No macro, syntax, notation, axiom, sorry.
-/
import Derived.Test.YtiolemkcnkokaaaGreatDoorRows
import GoSem.ClaimSeven
namespace Go.Proofs.YtiolemkcnkokaaaGreatDoor
namespace Rows

/-- THE TIED CARD OF 'palimplaw15.DataAll'. -/
def dataAllCard : Claim7 := { stood := { row := dataAllRow, standIns := [], harness := (true, "bbc37c03ac2752a4974eb3915006a884c835d819329e15639122a90622a9a8bd"), looks := false }, kinds := [], alts := [], laidByText := true, laidKinds := [.data, .pinned], laidTests := true, laidLooks := .later }
def DataAllCardSaid : Prop := Claim7.holds Tryz.pinned (.plain (OpenSpec.ofChange dataAllSpec)) dataAllCard

/-- THE TIED CARD OF 'palimplaw15.DataOthers'. -/
def dataOthersCard : Claim7 := { stood := { row := dataOthersRow, standIns := [], harness := (true, "bbc37c03ac2752a4974eb3915006a884c835d819329e15639122a90622a9a8bd"), looks := false }, kinds := [], alts := [], laidByText := true, laidKinds := [.data, .pinned], laidTests := true, laidLooks := .later }
def DataOthersCardSaid : Prop := Claim7.holds Tryz.pinned (.plain (OpenSpec.ofChange dataOthersSpec)) dataOthersCard

/-- THE SECOND FORM's CARD OF 'palimplaw15.DataAll'. -/
def dataAllUptoCard : Claim7 := { stood := { row := dataAllUptoRow, standIns := [], harness := (true, "bbc37c03ac2752a4974eb3915006a884c835d819329e15639122a90622a9a8bd"), looks := false }, kinds := [], alts := [], laidByText := true, laidKinds := [.data, .pinned], laidTests := true, laidLooks := .later }
def DataAllUptoCardSaid : Prop := Claim7.holds Tryz.pinned (.plain (OpenSpec.upto dataAllSpec)) dataAllUptoCard

/-- THE SECOND FORM's CARD OF 'palimplaw15.DataOthers'. -/
def dataOthersUptoCard : Claim7 := { stood := { row := dataOthersUptoRow, standIns := [], harness := (true, "bbc37c03ac2752a4974eb3915006a884c835d819329e15639122a90622a9a8bd"), looks := false }, kinds := [], alts := [], laidByText := true, laidKinds := [.data, .pinned], laidTests := true, laidLooks := .later }
def DataOthersUptoCardSaid : Prop := Claim7.holds Tryz.pinned (.plain (OpenSpec.upto dataOthersSpec)) dataOthersUptoCard
end Rows
end Go.Proofs.YtiolemkcnkokaaaGreatDoor
