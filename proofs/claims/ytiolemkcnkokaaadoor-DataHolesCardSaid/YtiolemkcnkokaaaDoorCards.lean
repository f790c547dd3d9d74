/-
  DERIVED. GIVEN WITH THE SEED: THE CARDS: each row of YtiolemkcnkokaaaDoorRows.lean that lists a variable, with what it lists TIED to the program's text (the seventh form; the later family's looks); each row that meets fmt, with fmt's text TOLD by the authors' own Lean function (tested against real Go, not proved from fmt's source: count such statements apart). THE CARD IS WHAT COUNTS. Prove the row's statement (the work); the ties are given (YtiolemkcnkokaaaDoorTie.lean); close each card by the builder's one call (the guide's Derived/Test/ToyasCard.lean, 'card_holds'). Laid BY PROGRAM, IN A SANDBOX (cutbox-door.mjs). By AI agents, Wed Nov 11 2026. No macro, syntax, notation, axiom, sorry.
-/
import Derived.Test.YtiolemkcnkokaaaDoorRows
import GoSem.ClaimSeven
namespace Go.Proofs.YtiolemkcnkokaaaDoor
namespace Rows

/-- THE TIED CARD OF 'palimplaw15.DataBytes'. -/
def dataBytesCard : Claim7 := { stood := { row := dataBytesRow, standIns := [], harness := (true, "917cf72f38a19c7e6aab5cb2af81ea927b9f24b098e55c6206a2c847469cfb2e"), looks := false }, kinds := [], alts := [], laidByText := true, laidKinds := [.data, .pinned], laidTests := true, laidLooks := .later }
def DataBytesCardSaid : Prop := Claim7.holds Tryd.pinned (.plain (OpenSpec.ofChange dataBytesSpec)) dataBytesCard

/-- THE TIED CARD OF 'palimplaw15.DataHoles'. -/
def dataHolesCard : Claim7 := { stood := { row := dataHolesRow, standIns := [], harness := (true, "917cf72f38a19c7e6aab5cb2af81ea927b9f24b098e55c6206a2c847469cfb2e"), looks := false }, kinds := [], alts := [], laidByText := true, laidKinds := [.data, .pinned], laidTests := true, laidLooks := .later }
def DataHolesCardSaid : Prop := Claim7.holds Tryd.pinned (.plain (OpenSpec.ofChange dataHolesSpec)) dataHolesCard

/-- THE TIED CARD OF 'palimplaw15.DataTorn'. -/
def dataTornCard : Claim7 := { stood := { row := dataTornRow, standIns := [], harness := (true, "917cf72f38a19c7e6aab5cb2af81ea927b9f24b098e55c6206a2c847469cfb2e"), looks := false }, kinds := [], alts := [], laidByText := true, laidKinds := [.data, .pinned], laidTests := true, laidLooks := .later }
def DataTornCardSaid : Prop := Claim7.holds Tryd.pinned (.plain (OpenSpec.ofChange dataTornSpec)) dataTornCard

/-- THE TIED CARD OF 'palimplaw15.DataForms'. -/
def dataFormsCard : Claim7 := { stood := { row := dataFormsRow, standIns := [], harness := (true, "917cf72f38a19c7e6aab5cb2af81ea927b9f24b098e55c6206a2c847469cfb2e"), looks := false }, kinds := [], alts := [], laidByText := true, laidKinds := [.data, .pinned], laidTests := true, laidLooks := .later }
def DataFormsCardSaid : Prop := Claim7.holds Tryd.pinned (.plain (OpenSpec.ofChange dataFormsSpec)) dataFormsCard

/-- THE TIED CARD OF 'palimplaw15.DataTwo'. -/
def dataTwoCard : Claim7 := { stood := { row := dataTwoRow, standIns := [], harness := (true, "917cf72f38a19c7e6aab5cb2af81ea927b9f24b098e55c6206a2c847469cfb2e"), looks := false }, kinds := [], alts := [], laidByText := true, laidKinds := [.data, .pinned], laidTests := true, laidLooks := .later }
def DataTwoCardSaid : Prop := Claim7.holds Tryd.pinned (.plain (OpenSpec.ofChange dataTwoSpec)) dataTwoCard

/-- THE TIED CARD OF 'palimplaw15.DataCuts'. -/
def dataCutsCard : Claim7 := { stood := { row := dataCutsRow, standIns := [], harness := (true, "917cf72f38a19c7e6aab5cb2af81ea927b9f24b098e55c6206a2c847469cfb2e"), looks := false }, kinds := [], alts := [], laidByText := true, laidKinds := [.data, .pinned], laidTests := true, laidLooks := .later }
def DataCutsCardSaid : Prop := Claim7.holds Tryd.pinned (.plain (OpenSpec.ofChange dataCutsSpec)) dataCutsCard

/-- THE SECOND FORM's CARD OF 'palimplaw15.DataBytes'. -/
def dataBytesUptoCard : Claim7 := { stood := { row := dataBytesUptoRow, standIns := [], harness := (true, "917cf72f38a19c7e6aab5cb2af81ea927b9f24b098e55c6206a2c847469cfb2e"), looks := false }, kinds := [], alts := [], laidByText := true, laidKinds := [.data, .pinned], laidTests := true, laidLooks := .later }
def DataBytesUptoCardSaid : Prop := Claim7.holds Tryd.pinned (.plain (OpenSpec.upto dataBytesSpec)) dataBytesUptoCard

/-- THE SECOND FORM's CARD OF 'palimplaw15.DataHoles'. -/
def dataHolesUptoCard : Claim7 := { stood := { row := dataHolesUptoRow, standIns := [], harness := (true, "917cf72f38a19c7e6aab5cb2af81ea927b9f24b098e55c6206a2c847469cfb2e"), looks := false }, kinds := [], alts := [], laidByText := true, laidKinds := [.data, .pinned], laidTests := true, laidLooks := .later }
def DataHolesUptoCardSaid : Prop := Claim7.holds Tryd.pinned (.plain (OpenSpec.upto dataHolesSpec)) dataHolesUptoCard

/-- THE SECOND FORM's CARD OF 'palimplaw15.DataTorn'. -/
def dataTornUptoCard : Claim7 := { stood := { row := dataTornUptoRow, standIns := [], harness := (true, "917cf72f38a19c7e6aab5cb2af81ea927b9f24b098e55c6206a2c847469cfb2e"), looks := false }, kinds := [], alts := [], laidByText := true, laidKinds := [.data, .pinned], laidTests := true, laidLooks := .later }
def DataTornUptoCardSaid : Prop := Claim7.holds Tryd.pinned (.plain (OpenSpec.upto dataTornSpec)) dataTornUptoCard

/-- THE SECOND FORM's CARD OF 'palimplaw15.DataForms'. -/
def dataFormsUptoCard : Claim7 := { stood := { row := dataFormsUptoRow, standIns := [], harness := (true, "917cf72f38a19c7e6aab5cb2af81ea927b9f24b098e55c6206a2c847469cfb2e"), looks := false }, kinds := [], alts := [], laidByText := true, laidKinds := [.data, .pinned], laidTests := true, laidLooks := .later }
def DataFormsUptoCardSaid : Prop := Claim7.holds Tryd.pinned (.plain (OpenSpec.upto dataFormsSpec)) dataFormsUptoCard

/-- THE SECOND FORM's CARD OF 'palimplaw15.DataTwo'. -/
def dataTwoUptoCard : Claim7 := { stood := { row := dataTwoUptoRow, standIns := [], harness := (true, "917cf72f38a19c7e6aab5cb2af81ea927b9f24b098e55c6206a2c847469cfb2e"), looks := false }, kinds := [], alts := [], laidByText := true, laidKinds := [.data, .pinned], laidTests := true, laidLooks := .later }
def DataTwoUptoCardSaid : Prop := Claim7.holds Tryd.pinned (.plain (OpenSpec.upto dataTwoSpec)) dataTwoUptoCard

/-- THE SECOND FORM's CARD OF 'palimplaw15.DataCuts'. -/
def dataCutsUptoCard : Claim7 := { stood := { row := dataCutsUptoRow, standIns := [], harness := (true, "917cf72f38a19c7e6aab5cb2af81ea927b9f24b098e55c6206a2c847469cfb2e"), looks := false }, kinds := [], alts := [], laidByText := true, laidKinds := [.data, .pinned], laidTests := true, laidLooks := .later }
def DataCutsUptoCardSaid : Prop := Claim7.holds Tryd.pinned (.plain (OpenSpec.upto dataCutsSpec)) dataCutsUptoCard
end Rows
end Go.Proofs.YtiolemkcnkokaaaDoor
