/-
  NARROWER THAN 'FOR EVERY INPUT', by the rows' own cells (each row's printed sentence says how): DataBytes: laid · DataHoles: laid · DataTorn: laid · DataForms: laid · DataTwo: laid · DataCuts: laid.
  DERIVED. THE GIVEN ROWS OF THIS SEAT. 6 by the template 'for every input the law returns true; each argument reads behind the call as it read before'; 0 by the template 'total and deterministic' (their statements: YtiolemkcnkokaaaDoorTotals.lean).
  GIVEN WITH THE SEED: the statements are not yours to turn. If you find one false, say at which input.
  Laid BY PROGRAM, IN A SANDBOX (cutbox-rows.mjs): the forced cells as the released guide's own fill.sh prints them over the translation e9a2cde55664c0f3… (all of the seat's roots in one cut). By AI agents, Wed Nov 11 2026. No macro, syntax, notation, axiom, sorry.
-/
import Derived.Test.YtiolemkcnkokaaaDoorChecked
import GoSem.PinnedTables
import GoSem.Claim
import GoSem.ClaimJoined
import GoSem.ClaimMapViews
import Derived.JoinedTies
import Derived.KernelRfl
namespace Go.Proofs.YtiolemkcnkokaaaDoor
/- THE CELL 'sum', in the pinned program and in every row, IS THE sha256 OF THE DUMP (.gsa) THAT YtiolemkcnkokaaaDoorProg.lean LOADS. Nothing in Lean hashes anything: it is a label: what it is worth is what the hold of that sum in a sandbox is worth. -/
noncomputable def Tryd.pinned : Pinned := { name := "ytiolemkcnkokaaadoor", sum := "e9a2cde55664c0f34615e93b58950fae28a060776f97c1ee682153a0f20fb0ac", checked := Tryd.checked }
namespace Rows
def none {H : Type} : Left H := { results := [], args := [] }

/- WHAT THE LISTED PACKAGE-LEVEL VARIABLES READ AS WHEN THE CALL BEGINS. Each datum BY PROGRAM (the guide's laid-datum.mjs) off the statement by which the dump's own 'gosem.cut.vars' lays the variable. In a bare row this is a premise. The card (YtiolemkcnkokaaaDoorCards.lean) ties it to the program's text. -/
def laid_unicode_utf8_acceptRanges {H : Type} : DataW H := .agg [.agg [.lit (.int .u8 128), .lit (.int .u8 191)], .agg [.lit (.int .u8 160), .lit (.int .u8 191)], .agg [.lit (.int .u8 128), .lit (.int .u8 159)], .agg [.lit (.int .u8 144), .lit (.int .u8 191)], .agg [.lit (.int .u8 128), .lit (.int .u8 143)], .agg [.lit (.int .u8 0), .lit (.int .u8 0)], .agg [.lit (.int .u8 0), .lit (.int .u8 0)], .agg [.lit (.int .u8 0), .lit (.int .u8 0)], .agg [.lit (.int .u8 0), .lit (.int .u8 0)], .agg [.lit (.int .u8 0), .lit (.int .u8 0)], .agg [.lit (.int .u8 0), .lit (.int .u8 0)], .agg [.lit (.int .u8 0), .lit (.int .u8 0)], .agg [.lit (.int .u8 0), .lit (.int .u8 0)], .agg [.lit (.int .u8 0), .lit (.int .u8 0)], .agg [.lit (.int .u8 0), .lit (.int .u8 0)], .agg [.lit (.int .u8 0), .lit (.int .u8 0)]]
/-- One of Go's own tables, pinned by name: the form's constant. -/
def laid_unicode_utf8_first : DataW Unit := Go.Pinned.utf8First

/-- 'palimplaw15.DataBytes': WHATEVER THE INPUT: true; the input reads as it did. -/
def dataBytesSpec : ChangeSpec := { name := "dataBytes", fn := fun _ => fun
  | [d1, d2, d3, d4, d5, d6] => { results := [.lit (.bool true)], args := [d1, d2, d3, d4, d5, d6] }
  | _ => none }
def dataBytesRow : OpenClaim := { program := "ytiolemkcnkokaaadoor", sum := "e9a2cde55664c0f34615e93b58950fae28a060776f97c1ee682153a0f20fb0ac", func := "palimp/palimplaw15.DataBytes", spec := "dataBytes", inPlace := ["internal/bytealg.CountString", "internal/bytealg.IndexByteString", "internal/bytealg.IndexString", "internal/bytealg.abigen_runtime_cmpstring", "internal/abi.NoEscape", "internal/bytealg.MakeNoZero"], unfollowed := true, recurses := true, named := ["unicode/utf8.first", "unicode/utf8.acceptRanges", "internal/bytealg.MaxLen"], apart := false, laid := [("unicode/utf8.acceptRanges", laid_unicode_utf8_acceptRanges), ("unicode/utf8.first", laid_unicode_utf8_first)] }
def DataBytesSaid : Prop := dataBytesRow.holds Tryd.pinned (OpenSpec.ofChange dataBytesSpec)

/-- ITS FALSE NEIGHBOUR: 'it returns false'. Refute it at one input. -/
def dataBytesWrong : ChangeSpec := { name := "dataBytes", fn := fun _ => fun
  | [d1, d2, d3, d4, d5, d6] => { results := [.lit (.bool false)], args := [d1, d2, d3, d4, d5, d6] }
  | _ => none }
def DataBytesWrongFalsely : Prop := dataBytesRow.holds Tryd.pinned (OpenSpec.ofChange dataBytesWrong)

/-- 'palimplaw15.DataHoles': WHATEVER THE INPUT: true; the input reads as it did. -/
def dataHolesSpec : ChangeSpec := { name := "dataHoles", fn := fun _ => fun
  | [d] => { results := [.lit (.bool true)], args := [d] }
  | _ => none }
def dataHolesRow : OpenClaim := { program := "ytiolemkcnkokaaadoor", sum := "e9a2cde55664c0f34615e93b58950fae28a060776f97c1ee682153a0f20fb0ac", func := "palimp/palimplaw15.DataHoles", spec := "dataHoles", inPlace := ["internal/bytealg.CountString", "internal/bytealg.IndexByteString", "internal/bytealg.IndexString", "internal/bytealg.abigen_runtime_cmpstring", "internal/abi.NoEscape", "internal/bytealg.MakeNoZero"], unfollowed := true, recurses := true, named := ["unicode/utf8.first", "unicode/utf8.acceptRanges", "internal/bytealg.MaxLen"], apart := false, laid := [("unicode/utf8.acceptRanges", laid_unicode_utf8_acceptRanges), ("unicode/utf8.first", laid_unicode_utf8_first)] }
def DataHolesSaid : Prop := dataHolesRow.holds Tryd.pinned (OpenSpec.ofChange dataHolesSpec)

/-- ITS FALSE NEIGHBOUR: 'it returns false'. Refute it at one input. -/
def dataHolesWrong : ChangeSpec := { name := "dataHoles", fn := fun _ => fun
  | [d] => { results := [.lit (.bool false)], args := [d] }
  | _ => none }
def DataHolesWrongFalsely : Prop := dataHolesRow.holds Tryd.pinned (OpenSpec.ofChange dataHolesWrong)

/-- 'palimplaw15.DataTorn': WHATEVER THE INPUT: true; the input reads as it did. -/
def dataTornSpec : ChangeSpec := { name := "dataTorn", fn := fun _ => fun
  | [d1, d2, d3, d4] => { results := [.lit (.bool true)], args := [d1, d2, d3, d4] }
  | _ => none }
def dataTornRow : OpenClaim := { program := "ytiolemkcnkokaaadoor", sum := "e9a2cde55664c0f34615e93b58950fae28a060776f97c1ee682153a0f20fb0ac", func := "palimp/palimplaw15.DataTorn", spec := "dataTorn", inPlace := ["internal/bytealg.CountString", "internal/bytealg.IndexByteString", "internal/bytealg.IndexString", "internal/bytealg.abigen_runtime_cmpstring", "internal/abi.NoEscape", "internal/bytealg.MakeNoZero"], unfollowed := true, recurses := true, named := ["unicode/utf8.first", "unicode/utf8.acceptRanges", "internal/bytealg.MaxLen"], apart := false, laid := [("unicode/utf8.acceptRanges", laid_unicode_utf8_acceptRanges), ("unicode/utf8.first", laid_unicode_utf8_first)] }
def DataTornSaid : Prop := dataTornRow.holds Tryd.pinned (OpenSpec.ofChange dataTornSpec)

/-- ITS FALSE NEIGHBOUR: 'it returns false'. Refute it at one input. -/
def dataTornWrong : ChangeSpec := { name := "dataTorn", fn := fun _ => fun
  | [d1, d2, d3, d4] => { results := [.lit (.bool false)], args := [d1, d2, d3, d4] }
  | _ => none }
def DataTornWrongFalsely : Prop := dataTornRow.holds Tryd.pinned (OpenSpec.ofChange dataTornWrong)

/-- 'palimplaw15.DataForms': WHATEVER THE INPUT: true; the input reads as it did. -/
def dataFormsSpec : ChangeSpec := { name := "dataForms", fn := fun _ => fun
  | [] => { results := [.lit (.bool true)], args := [] }
  | _ => none }
def dataFormsRow : OpenClaim := { program := "ytiolemkcnkokaaadoor", sum := "e9a2cde55664c0f34615e93b58950fae28a060776f97c1ee682153a0f20fb0ac", func := "palimp/palimplaw15.DataForms", spec := "dataForms", inPlace := ["internal/bytealg.CountString", "internal/bytealg.IndexByteString", "internal/bytealg.IndexString", "internal/bytealg.abigen_runtime_cmpstring", "internal/abi.NoEscape", "internal/bytealg.MakeNoZero"], unfollowed := true, recurses := true, named := ["unicode/utf8.first", "unicode/utf8.acceptRanges", "internal/bytealg.MaxLen"], apart := false, laid := [("unicode/utf8.acceptRanges", laid_unicode_utf8_acceptRanges), ("unicode/utf8.first", laid_unicode_utf8_first)] }
def DataFormsSaid : Prop := dataFormsRow.holds Tryd.pinned (OpenSpec.ofChange dataFormsSpec)

/-- ITS FALSE NEIGHBOUR: 'it returns false'. Refute it at one input. -/
def dataFormsWrong : ChangeSpec := { name := "dataForms", fn := fun _ => fun
  | [] => { results := [.lit (.bool false)], args := [] }
  | _ => none }
def DataFormsWrongFalsely : Prop := dataFormsRow.holds Tryd.pinned (OpenSpec.ofChange dataFormsWrong)

/-- 'palimplaw15.DataTwo': WHATEVER THE INPUT: true; the input reads as it did. -/
def dataTwoSpec : ChangeSpec := { name := "dataTwo", fn := fun _ => fun
  | [d1, d2, d3, d4, d5] => { results := [.lit (.bool true)], args := [d1, d2, d3, d4, d5] }
  | _ => none }
def dataTwoRow : OpenClaim := { program := "ytiolemkcnkokaaadoor", sum := "e9a2cde55664c0f34615e93b58950fae28a060776f97c1ee682153a0f20fb0ac", func := "palimp/palimplaw15.DataTwo", spec := "dataTwo", inPlace := ["internal/bytealg.CountString", "internal/bytealg.IndexByteString", "internal/bytealg.IndexString", "internal/bytealg.abigen_runtime_cmpstring", "internal/abi.NoEscape", "internal/bytealg.MakeNoZero"], unfollowed := true, recurses := true, named := ["unicode/utf8.first", "unicode/utf8.acceptRanges", "internal/bytealg.MaxLen"], apart := false, laid := [("unicode/utf8.acceptRanges", laid_unicode_utf8_acceptRanges), ("unicode/utf8.first", laid_unicode_utf8_first)] }
def DataTwoSaid : Prop := dataTwoRow.holds Tryd.pinned (OpenSpec.ofChange dataTwoSpec)

/-- ITS FALSE NEIGHBOUR: 'it returns false'. Refute it at one input. -/
def dataTwoWrong : ChangeSpec := { name := "dataTwo", fn := fun _ => fun
  | [d1, d2, d3, d4, d5] => { results := [.lit (.bool false)], args := [d1, d2, d3, d4, d5] }
  | _ => none }
def DataTwoWrongFalsely : Prop := dataTwoRow.holds Tryd.pinned (OpenSpec.ofChange dataTwoWrong)

/-- 'palimplaw15.DataCuts': WHATEVER THE INPUT: true; the input reads as it did. -/
def dataCutsSpec : ChangeSpec := { name := "dataCuts", fn := fun _ => fun
  | [d1, d2, d3] => { results := [.lit (.bool true)], args := [d1, d2, d3] }
  | _ => none }
def dataCutsRow : OpenClaim := { program := "ytiolemkcnkokaaadoor", sum := "e9a2cde55664c0f34615e93b58950fae28a060776f97c1ee682153a0f20fb0ac", func := "palimp/palimplaw15.DataCuts", spec := "dataCuts", inPlace := ["internal/bytealg.CountString", "internal/bytealg.IndexByteString", "internal/bytealg.IndexString", "internal/bytealg.abigen_runtime_cmpstring", "internal/abi.NoEscape", "internal/bytealg.MakeNoZero"], unfollowed := true, recurses := true, named := ["unicode/utf8.first", "unicode/utf8.acceptRanges", "internal/bytealg.MaxLen"], apart := false, laid := [("unicode/utf8.acceptRanges", laid_unicode_utf8_acceptRanges), ("unicode/utf8.first", laid_unicode_utf8_first)] }
def DataCutsSaid : Prop := dataCutsRow.holds Tryd.pinned (OpenSpec.ofChange dataCutsSpec)

/-- ITS FALSE NEIGHBOUR: 'it returns false'. Refute it at one input. -/
def dataCutsWrong : ChangeSpec := { name := "dataCuts", fn := fun _ => fun
  | [d1, d2, d3] => { results := [.lit (.bool false)], args := [d1, d2, d3] }
  | _ => none }
def DataCutsWrongFalsely : Prop := dataCutsRow.holds Tryd.pinned (OpenSpec.ofChange dataCutsWrong)

/- THE SECOND FORM. 'bulk': how many values and letters a reading holds, each counted each time it is reached (what is shared counts as often as it is met; a slice's spare places count too). A statement '..UptoSaid' is the law's where the arguments, and the package variables that the reading takes, are together of bulk at most 1048576: NARROWER than '..Said'. Prove '..Said' where nothing that the law and all that it calls make is longer than what came in: it says more and counts as full. Else prove '..UptoSaid'. A law counts once. -/
mutual
def uptoBulk {H : Type} : DataW H → Nat
  | .lit (.string bytes) => bytes.length + 1
  | .lit _ => 1
  | .nil => 1
  | .ptr d => uptoBulk d + 1
  | .slice elems spare => uptoBulkAll elems + uptoBulkAll spare + 1
  | .agg parts => uptoBulkAll parts + 1
  | .iface _ d => uptoBulk d + 1
  | .map entries => uptoBulkEntries entries + 1
  | .held _ => 1
def uptoBulkAll {H : Type} : List (DataW H) → Nat
  | [] => 0
  | d :: r => uptoBulk d + uptoBulkAll r
def uptoBulkEntries {H : Type} : List (Lit × DataW H) → Nat
  | [] => 0
  | x :: r => uptoBulkEntry x + uptoBulkEntries r
def uptoBulkEntry {H : Type} : Lit × DataW H → Nat
  | (.string bytes, d) => bytes.length + uptoBulk d + 1
  | (_, d) => uptoBulk d + 1
 end
def uptoSmall : (H : Type) → List (DataW H) → Bool := fun _ ds => decide (uptoBulkAll ds ≤ 1048576)
def OpenSpec.upto (s : _root_.Go.ChangeSpec) : _root_.Go.OpenSpec := { _root_.Go.OpenSpec.ofChange s with cond := some uptoSmall }

/-- 'palimplaw15.DataBytes', WHERE WHAT IT READS IS OF BULK AT MOST 1048576: true; the input reads as it did. -/
def dataBytesUptoRow : OpenClaim := { program := "ytiolemkcnkokaaadoor", sum := "e9a2cde55664c0f34615e93b58950fae28a060776f97c1ee682153a0f20fb0ac", func := "palimp/palimplaw15.DataBytes", spec := "dataBytes", inPlace := ["internal/bytealg.CountString", "internal/bytealg.IndexByteString", "internal/bytealg.IndexString", "internal/bytealg.abigen_runtime_cmpstring", "internal/abi.NoEscape", "internal/bytealg.MakeNoZero"], unfollowed := true, recurses := true, named := ["unicode/utf8.first", "unicode/utf8.acceptRanges", "internal/bytealg.MaxLen"], apart := false, laid := [("unicode/utf8.acceptRanges", laid_unicode_utf8_acceptRanges), ("unicode/utf8.first", laid_unicode_utf8_first)], narrowed := true }
def DataBytesUptoSaid : Prop := dataBytesUptoRow.holds Tryd.pinned (OpenSpec.upto dataBytesSpec)

/-- 'palimplaw15.DataHoles', WHERE WHAT IT READS IS OF BULK AT MOST 1048576: true; the input reads as it did. -/
def dataHolesUptoRow : OpenClaim := { program := "ytiolemkcnkokaaadoor", sum := "e9a2cde55664c0f34615e93b58950fae28a060776f97c1ee682153a0f20fb0ac", func := "palimp/palimplaw15.DataHoles", spec := "dataHoles", inPlace := ["internal/bytealg.CountString", "internal/bytealg.IndexByteString", "internal/bytealg.IndexString", "internal/bytealg.abigen_runtime_cmpstring", "internal/abi.NoEscape", "internal/bytealg.MakeNoZero"], unfollowed := true, recurses := true, named := ["unicode/utf8.first", "unicode/utf8.acceptRanges", "internal/bytealg.MaxLen"], apart := false, laid := [("unicode/utf8.acceptRanges", laid_unicode_utf8_acceptRanges), ("unicode/utf8.first", laid_unicode_utf8_first)], narrowed := true }
def DataHolesUptoSaid : Prop := dataHolesUptoRow.holds Tryd.pinned (OpenSpec.upto dataHolesSpec)

/-- 'palimplaw15.DataTorn', WHERE WHAT IT READS IS OF BULK AT MOST 1048576: true; the input reads as it did. -/
def dataTornUptoRow : OpenClaim := { program := "ytiolemkcnkokaaadoor", sum := "e9a2cde55664c0f34615e93b58950fae28a060776f97c1ee682153a0f20fb0ac", func := "palimp/palimplaw15.DataTorn", spec := "dataTorn", inPlace := ["internal/bytealg.CountString", "internal/bytealg.IndexByteString", "internal/bytealg.IndexString", "internal/bytealg.abigen_runtime_cmpstring", "internal/abi.NoEscape", "internal/bytealg.MakeNoZero"], unfollowed := true, recurses := true, named := ["unicode/utf8.first", "unicode/utf8.acceptRanges", "internal/bytealg.MaxLen"], apart := false, laid := [("unicode/utf8.acceptRanges", laid_unicode_utf8_acceptRanges), ("unicode/utf8.first", laid_unicode_utf8_first)], narrowed := true }
def DataTornUptoSaid : Prop := dataTornUptoRow.holds Tryd.pinned (OpenSpec.upto dataTornSpec)

/-- 'palimplaw15.DataForms', WHERE WHAT IT READS IS OF BULK AT MOST 1048576: true; the input reads as it did. -/
def dataFormsUptoRow : OpenClaim := { program := "ytiolemkcnkokaaadoor", sum := "e9a2cde55664c0f34615e93b58950fae28a060776f97c1ee682153a0f20fb0ac", func := "palimp/palimplaw15.DataForms", spec := "dataForms", inPlace := ["internal/bytealg.CountString", "internal/bytealg.IndexByteString", "internal/bytealg.IndexString", "internal/bytealg.abigen_runtime_cmpstring", "internal/abi.NoEscape", "internal/bytealg.MakeNoZero"], unfollowed := true, recurses := true, named := ["unicode/utf8.first", "unicode/utf8.acceptRanges", "internal/bytealg.MaxLen"], apart := false, laid := [("unicode/utf8.acceptRanges", laid_unicode_utf8_acceptRanges), ("unicode/utf8.first", laid_unicode_utf8_first)], narrowed := true }
def DataFormsUptoSaid : Prop := dataFormsUptoRow.holds Tryd.pinned (OpenSpec.upto dataFormsSpec)

/-- 'palimplaw15.DataTwo', WHERE WHAT IT READS IS OF BULK AT MOST 1048576: true; the input reads as it did. -/
def dataTwoUptoRow : OpenClaim := { program := "ytiolemkcnkokaaadoor", sum := "e9a2cde55664c0f34615e93b58950fae28a060776f97c1ee682153a0f20fb0ac", func := "palimp/palimplaw15.DataTwo", spec := "dataTwo", inPlace := ["internal/bytealg.CountString", "internal/bytealg.IndexByteString", "internal/bytealg.IndexString", "internal/bytealg.abigen_runtime_cmpstring", "internal/abi.NoEscape", "internal/bytealg.MakeNoZero"], unfollowed := true, recurses := true, named := ["unicode/utf8.first", "unicode/utf8.acceptRanges", "internal/bytealg.MaxLen"], apart := false, laid := [("unicode/utf8.acceptRanges", laid_unicode_utf8_acceptRanges), ("unicode/utf8.first", laid_unicode_utf8_first)], narrowed := true }
def DataTwoUptoSaid : Prop := dataTwoUptoRow.holds Tryd.pinned (OpenSpec.upto dataTwoSpec)

/-- 'palimplaw15.DataCuts', WHERE WHAT IT READS IS OF BULK AT MOST 1048576: true; the input reads as it did. -/
def dataCutsUptoRow : OpenClaim := { program := "ytiolemkcnkokaaadoor", sum := "e9a2cde55664c0f34615e93b58950fae28a060776f97c1ee682153a0f20fb0ac", func := "palimp/palimplaw15.DataCuts", spec := "dataCuts", inPlace := ["internal/bytealg.CountString", "internal/bytealg.IndexByteString", "internal/bytealg.IndexString", "internal/bytealg.abigen_runtime_cmpstring", "internal/abi.NoEscape", "internal/bytealg.MakeNoZero"], unfollowed := true, recurses := true, named := ["unicode/utf8.first", "unicode/utf8.acceptRanges", "internal/bytealg.MaxLen"], apart := false, laid := [("unicode/utf8.acceptRanges", laid_unicode_utf8_acceptRanges), ("unicode/utf8.first", laid_unicode_utf8_first)], narrowed := true }
def DataCutsUptoSaid : Prop := dataCutsUptoRow.holds Tryd.pinned (OpenSpec.upto dataCutsSpec)

end Rows
end Go.Proofs.YtiolemkcnkokaaaDoor
