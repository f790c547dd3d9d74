/-
  DERIVED. GIVEN WITH THE SEED: THE CARDS: each row of YtlidaeklambcgaaDoorRows.lean that lists a variable, with what it lists TIED to the program's text (the seventh form; the later family's looks); each row that meets fmt, with fmt's text TOLD by the authors' own Lean function (tested against real Go, not proved from fmt's source: count such statements apart). THE CARD IS WHAT COUNTS. Prove the row's statement (the work); the ties are given (YtlidaeklambcgaaDoorTie.lean); close each card by the builder's one call (the guide's Derived/Test/ToyasCard.lean, 'card_holds'). Laid BY PROGRAM, IN A SANDBOX (cutbox-door.mjs). By AI agents, Wed Nov 11 2026. No macro, syntax, notation, axiom, sorry.
-/
import Derived.Test.YtlidaeklambcgaaDoorRows
import GoSem.ClaimSeven
namespace Go.Proofs.YtlidaeklambcgaaDoor
namespace Rows

/-- THE TIED CARD OF 'palimplaw11.NameAll'. -/
def nameAllCard : Claim7 := { stood := { row := nameAllRow, standIns := [], harness := (true, "270f914a0371e9191f3abaacbff5c5fe138bbe7937f57120b4d4097b45bba086"), looks := false }, kinds := [], alts := [], laidByText := true, laidKinds := [.data, .pinned], laidTests := true, laidLooks := .later }
def NameAllCardSaid : Prop := Claim7.holds Tryd.pinned (.plain (OpenSpec.ofChange nameAllSpec)) nameAllCard

/-- THE TIED CARD OF 'palimplaw11.NameBack'. -/
def nameBackCard : Claim7 := { stood := { row := nameBackRow, standIns := [], harness := (true, "270f914a0371e9191f3abaacbff5c5fe138bbe7937f57120b4d4097b45bba086"), looks := false }, kinds := [], alts := [], laidByText := true, laidKinds := [.data, .pinned], laidTests := true, laidLooks := .later }
def NameBackCardSaid : Prop := Claim7.holds Tryd.pinned (.plain (OpenSpec.ofChange nameBackSpec)) nameBackCard

/-- THE TIED CARD OF 'palimplaw11.NameForms'. -/
def nameFormsCard : Claim7 := { stood := { row := nameFormsRow, standIns := [], harness := (true, "270f914a0371e9191f3abaacbff5c5fe138bbe7937f57120b4d4097b45bba086"), looks := false }, kinds := [], alts := [], laidByText := true, laidKinds := [.data, .pinned], laidTests := true, laidLooks := .later }
def NameFormsCardSaid : Prop := Claim7.holds Tryd.pinned (.plain (OpenSpec.ofChange nameFormsSpec)) nameFormsCard

/-- THE TIED CARD OF 'palimplaw11.NameEach'. -/
def nameEachCard : Claim7 := { stood := { row := nameEachRow, standIns := [], harness := (true, "270f914a0371e9191f3abaacbff5c5fe138bbe7937f57120b4d4097b45bba086"), looks := false }, kinds := [], alts := [], laidByText := true, laidKinds := [.data, .pinned], laidTests := true, laidLooks := .later }
def NameEachCardSaid : Prop := Claim7.holds Tryd.pinned (.plain (OpenSpec.ofChange nameEachSpec)) nameEachCard

/-- THE SECOND FORM's CARD OF 'palimplaw11.NameAll'. -/
def nameAllUptoCard : Claim7 := { stood := { row := nameAllUptoRow, standIns := [], harness := (true, "270f914a0371e9191f3abaacbff5c5fe138bbe7937f57120b4d4097b45bba086"), looks := false }, kinds := [], alts := [], laidByText := true, laidKinds := [.data, .pinned], laidTests := true, laidLooks := .later }
def NameAllUptoCardSaid : Prop := Claim7.holds Tryd.pinned (.plain (OpenSpec.upto nameAllSpec)) nameAllUptoCard

/-- THE SECOND FORM's CARD OF 'palimplaw11.NameBack'. -/
def nameBackUptoCard : Claim7 := { stood := { row := nameBackUptoRow, standIns := [], harness := (true, "270f914a0371e9191f3abaacbff5c5fe138bbe7937f57120b4d4097b45bba086"), looks := false }, kinds := [], alts := [], laidByText := true, laidKinds := [.data, .pinned], laidTests := true, laidLooks := .later }
def NameBackUptoCardSaid : Prop := Claim7.holds Tryd.pinned (.plain (OpenSpec.upto nameBackSpec)) nameBackUptoCard

/-- THE SECOND FORM's CARD OF 'palimplaw11.NameForms'. -/
def nameFormsUptoCard : Claim7 := { stood := { row := nameFormsUptoRow, standIns := [], harness := (true, "270f914a0371e9191f3abaacbff5c5fe138bbe7937f57120b4d4097b45bba086"), looks := false }, kinds := [], alts := [], laidByText := true, laidKinds := [.data, .pinned], laidTests := true, laidLooks := .later }
def NameFormsUptoCardSaid : Prop := Claim7.holds Tryd.pinned (.plain (OpenSpec.upto nameFormsSpec)) nameFormsUptoCard

/-- THE SECOND FORM's CARD OF 'palimplaw11.NameEach'. -/
def nameEachUptoCard : Claim7 := { stood := { row := nameEachUptoRow, standIns := [], harness := (true, "270f914a0371e9191f3abaacbff5c5fe138bbe7937f57120b4d4097b45bba086"), looks := false }, kinds := [], alts := [], laidByText := true, laidKinds := [.data, .pinned], laidTests := true, laidLooks := .later }
def NameEachUptoCardSaid : Prop := Claim7.holds Tryd.pinned (.plain (OpenSpec.upto nameEachSpec)) nameEachUptoCard
end Rows
end Go.Proofs.YtlidaeklambcgaaDoor
