/-
  No cell of these rows narrows 'for every input' (looked for: loops, veiled, ifaces, maps, wideKeys, modest, calm, conditions, laid).
  DERIVED. THE GIVEN ROWS OF THIS SEAT. 5 by the template 'for every input the law returns true; each argument reads behind the call as it read before'; 0 by the template 'total and deterministic' (their statements: YtjdfekampbbkaaaTotals.lean).
  GIVEN WITH THE SEED: the statements are not yours to turn. If you find one false, say at which input.
  Laid BY PROGRAM, IN A SANDBOX (cutbox-rows.mjs): the forced cells as the released guide's own fill.sh prints them over the translation bcf27c970ea7febf… (all of the seat's roots in one cut). By AI agents, Wed Nov 11 2026. No macro, syntax, notation, axiom, sorry.
-/
import Derived.Test.YtjdfekampbbkaaaChecked
import GoSem.Claim
import GoSem.ClaimJoined
import GoSem.ClaimMapViews
import Derived.JoinedTies
import Derived.KernelRfl
namespace Go.Proofs.Ytjdfekampbbkaaa
/- THE CELL 'sum', in the pinned program and in every row, IS THE sha256 OF THE DUMP (.gsa) THAT YtjdfekampbbkaaaProg.lean LOADS. Nothing in Lean hashes anything: it is a label: what it is worth is what the hold of that sum in a sandbox is worth. -/
noncomputable def Try.pinned : Pinned := { name := "ytjdfekampbbkaaa", sum := "bcf27c970ea7febf75a467048cdaca382d71bc9541edbfbe1e59fd280e463a44", checked := Try.checked }
namespace Rows
def none {H : Type} : Left H := { results := [], args := [] }

/-- 'palimplaw4.PtrAll': WHATEVER THE INPUT: true; the input reads as it did. -/
def ptrAllSpec : ChangeSpec := { name := "ptrAll", fn := fun _ => fun
  | [d1, d2, d3, d4, d5, d6, d7] => { results := [.lit (.bool true)], args := [d1, d2, d3, d4, d5, d6, d7] }
  | _ => none }
def ptrAllRow : OpenClaim := { program := "ytjdfekampbbkaaa", sum := "bcf27c970ea7febf75a467048cdaca382d71bc9541edbfbe1e59fd280e463a44", func := "palimp/palimplaw4.PtrAll", spec := "ptrAll", inPlace := ["internal/abi.NoEscape", "internal/bytealg.MakeNoZero"], apart := false }
def PtrAllSaid : Prop := ptrAllRow.holds Try.pinned (OpenSpec.ofChange ptrAllSpec)

/-- ITS FALSE NEIGHBOUR: 'it returns false'. Refute it at one input. -/
def ptrAllWrong : ChangeSpec := { name := "ptrAll", fn := fun _ => fun
  | [d1, d2, d3, d4, d5, d6, d7] => { results := [.lit (.bool false)], args := [d1, d2, d3, d4, d5, d6, d7] }
  | _ => none }
def PtrAllWrongFalsely : Prop := ptrAllRow.holds Try.pinned (OpenSpec.ofChange ptrAllWrong)

/-- 'palimplaw4.PtrBack': WHATEVER THE INPUT: true; the input reads as it did. -/
def ptrBackSpec : ChangeSpec := { name := "ptrBack", fn := fun _ => fun
  | [d1, d2, d3, d4] => { results := [.lit (.bool true)], args := [d1, d2, d3, d4] }
  | _ => none }
def ptrBackRow : OpenClaim := { program := "ytjdfekampbbkaaa", sum := "bcf27c970ea7febf75a467048cdaca382d71bc9541edbfbe1e59fd280e463a44", func := "palimp/palimplaw4.PtrBack", spec := "ptrBack", inPlace := ["internal/abi.NoEscape", "internal/bytealg.MakeNoZero"], apart := false }
def PtrBackSaid : Prop := ptrBackRow.holds Try.pinned (OpenSpec.ofChange ptrBackSpec)

/-- ITS FALSE NEIGHBOUR: 'it returns false'. Refute it at one input. -/
def ptrBackWrong : ChangeSpec := { name := "ptrBack", fn := fun _ => fun
  | [d1, d2, d3, d4] => { results := [.lit (.bool false)], args := [d1, d2, d3, d4] }
  | _ => none }
def PtrBackWrongFalsely : Prop := ptrBackRow.holds Try.pinned (OpenSpec.ofChange ptrBackWrong)

/-- 'palimplaw4.PtrForms': WHATEVER THE INPUT: true; the input reads as it did. -/
def ptrFormsSpec : ChangeSpec := { name := "ptrForms", fn := fun _ => fun
  | [] => { results := [.lit (.bool true)], args := [] }
  | _ => none }
def ptrFormsRow : OpenClaim := { program := "ytjdfekampbbkaaa", sum := "bcf27c970ea7febf75a467048cdaca382d71bc9541edbfbe1e59fd280e463a44", func := "palimp/palimplaw4.PtrForms", spec := "ptrForms", inPlace := ["internal/abi.NoEscape", "internal/bytealg.MakeNoZero"], apart := false }
def PtrFormsSaid : Prop := ptrFormsRow.holds Try.pinned (OpenSpec.ofChange ptrFormsSpec)

/-- ITS FALSE NEIGHBOUR: 'it returns false'. Refute it at one input. -/
def ptrFormsWrong : ChangeSpec := { name := "ptrForms", fn := fun _ => fun
  | [] => { results := [.lit (.bool false)], args := [] }
  | _ => none }
def PtrFormsWrongFalsely : Prop := ptrFormsRow.holds Try.pinned (OpenSpec.ofChange ptrFormsWrong)

/-- 'palimplaw4.PtrTurned': WHATEVER THE INPUT: true; the input reads as it did. -/
def ptrTurnedSpec : ChangeSpec := { name := "ptrTurned", fn := fun _ => fun
  | [d1, d2, d3] => { results := [.lit (.bool true)], args := [d1, d2, d3] }
  | _ => none }
def ptrTurnedRow : OpenClaim := { program := "ytjdfekampbbkaaa", sum := "bcf27c970ea7febf75a467048cdaca382d71bc9541edbfbe1e59fd280e463a44", func := "palimp/palimplaw4.PtrTurned", spec := "ptrTurned", inPlace := ["internal/abi.NoEscape", "internal/bytealg.MakeNoZero"], apart := false }
def PtrTurnedSaid : Prop := ptrTurnedRow.holds Try.pinned (OpenSpec.ofChange ptrTurnedSpec)

/-- ITS FALSE NEIGHBOUR: 'it returns false'. Refute it at one input. -/
def ptrTurnedWrong : ChangeSpec := { name := "ptrTurned", fn := fun _ => fun
  | [d1, d2, d3] => { results := [.lit (.bool false)], args := [d1, d2, d3] }
  | _ => none }
def PtrTurnedWrongFalsely : Prop := ptrTurnedRow.holds Try.pinned (OpenSpec.ofChange ptrTurnedWrong)

/-- 'palimplaw4.PtrFits': WHATEVER THE INPUT: true; the input reads as it did. -/
def ptrFitsSpec : ChangeSpec := { name := "ptrFits", fn := fun _ => fun
  | [d1, d2, d3, d4, d5] => { results := [.lit (.bool true)], args := [d1, d2, d3, d4, d5] }
  | _ => none }
def ptrFitsRow : OpenClaim := { program := "ytjdfekampbbkaaa", sum := "bcf27c970ea7febf75a467048cdaca382d71bc9541edbfbe1e59fd280e463a44", func := "palimp/palimplaw4.PtrFits", spec := "ptrFits", inPlace := ["internal/abi.NoEscape", "internal/bytealg.MakeNoZero"], apart := false }
def PtrFitsSaid : Prop := ptrFitsRow.holds Try.pinned (OpenSpec.ofChange ptrFitsSpec)

/-- ITS FALSE NEIGHBOUR: 'it returns false'. Refute it at one input. -/
def ptrFitsWrong : ChangeSpec := { name := "ptrFits", fn := fun _ => fun
  | [d1, d2, d3, d4, d5] => { results := [.lit (.bool false)], args := [d1, d2, d3, d4, d5] }
  | _ => none }
def PtrFitsWrongFalsely : Prop := ptrFitsRow.holds Try.pinned (OpenSpec.ofChange ptrFitsWrong)

/- THE SECOND FORM. 'bulk': how many values and letters a reading holds, each counted each time it is reached (what is shared counts as often as it is met; a slice's spare places count too). A statement '..UptoSaid' is the law's where the arguments, and the package variables that the reading takes, are together of bulk at most 1048576: NARROWER than '..Said'. Prove '..Said' where nothing that the law and all that it calls make is longer than what came in: it says more and counts as full. Else prove '..UptoSaid'. A law counts once. -/
mutual
def uptoBulk {H : Type} : DataW H → Nat
  | .lit (.string bytes) => bytes.length + 1
  | .lit _ => 1
  | .nil => 1
  | .ptr d => uptoBulk d + 1
  | .slice elems spare => uptoBulkAll elems + uptoBulkAll spare + 1
  | .agg parts => uptoBulkAll parts + 1
  | .iface _ d => uptoBulk d + 1
  | .map entries => uptoBulkEntries entries + 1
  | .held _ => 1
def uptoBulkAll {H : Type} : List (DataW H) → Nat
  | [] => 0
  | d :: r => uptoBulk d + uptoBulkAll r
def uptoBulkEntries {H : Type} : List (Lit × DataW H) → Nat
  | [] => 0
  | x :: r => uptoBulkEntry x + uptoBulkEntries r
def uptoBulkEntry {H : Type} : Lit × DataW H → Nat
  | (.string bytes, d) => bytes.length + uptoBulk d + 1
  | (_, d) => uptoBulk d + 1
 end
def uptoSmall : (H : Type) → List (DataW H) → Bool := fun _ ds => decide (uptoBulkAll ds ≤ 1048576)
def OpenSpec.upto (s : _root_.Go.ChangeSpec) : _root_.Go.OpenSpec := { _root_.Go.OpenSpec.ofChange s with cond := some uptoSmall }

/-- 'palimplaw4.PtrAll', WHERE WHAT IT READS IS OF BULK AT MOST 1048576: true; the input reads as it did. -/
def ptrAllUptoRow : OpenClaim := { program := "ytjdfekampbbkaaa", sum := "bcf27c970ea7febf75a467048cdaca382d71bc9541edbfbe1e59fd280e463a44", func := "palimp/palimplaw4.PtrAll", spec := "ptrAll", inPlace := ["internal/abi.NoEscape", "internal/bytealg.MakeNoZero"], apart := false, narrowed := true }
def PtrAllUptoSaid : Prop := ptrAllUptoRow.holds Try.pinned (OpenSpec.upto ptrAllSpec)

/-- 'palimplaw4.PtrBack', WHERE WHAT IT READS IS OF BULK AT MOST 1048576: true; the input reads as it did. -/
def ptrBackUptoRow : OpenClaim := { program := "ytjdfekampbbkaaa", sum := "bcf27c970ea7febf75a467048cdaca382d71bc9541edbfbe1e59fd280e463a44", func := "palimp/palimplaw4.PtrBack", spec := "ptrBack", inPlace := ["internal/abi.NoEscape", "internal/bytealg.MakeNoZero"], apart := false, narrowed := true }
def PtrBackUptoSaid : Prop := ptrBackUptoRow.holds Try.pinned (OpenSpec.upto ptrBackSpec)

/-- 'palimplaw4.PtrForms', WHERE WHAT IT READS IS OF BULK AT MOST 1048576: true; the input reads as it did. -/
def ptrFormsUptoRow : OpenClaim := { program := "ytjdfekampbbkaaa", sum := "bcf27c970ea7febf75a467048cdaca382d71bc9541edbfbe1e59fd280e463a44", func := "palimp/palimplaw4.PtrForms", spec := "ptrForms", inPlace := ["internal/abi.NoEscape", "internal/bytealg.MakeNoZero"], apart := false, narrowed := true }
def PtrFormsUptoSaid : Prop := ptrFormsUptoRow.holds Try.pinned (OpenSpec.upto ptrFormsSpec)

/-- 'palimplaw4.PtrTurned', WHERE WHAT IT READS IS OF BULK AT MOST 1048576: true; the input reads as it did. -/
def ptrTurnedUptoRow : OpenClaim := { program := "ytjdfekampbbkaaa", sum := "bcf27c970ea7febf75a467048cdaca382d71bc9541edbfbe1e59fd280e463a44", func := "palimp/palimplaw4.PtrTurned", spec := "ptrTurned", inPlace := ["internal/abi.NoEscape", "internal/bytealg.MakeNoZero"], apart := false, narrowed := true }
def PtrTurnedUptoSaid : Prop := ptrTurnedUptoRow.holds Try.pinned (OpenSpec.upto ptrTurnedSpec)

/-- 'palimplaw4.PtrFits', WHERE WHAT IT READS IS OF BULK AT MOST 1048576: true; the input reads as it did. -/
def ptrFitsUptoRow : OpenClaim := { program := "ytjdfekampbbkaaa", sum := "bcf27c970ea7febf75a467048cdaca382d71bc9541edbfbe1e59fd280e463a44", func := "palimp/palimplaw4.PtrFits", spec := "ptrFits", inPlace := ["internal/abi.NoEscape", "internal/bytealg.MakeNoZero"], apart := false, narrowed := true }
def PtrFitsUptoSaid : Prop := ptrFitsUptoRow.holds Try.pinned (OpenSpec.upto ptrFitsSpec)

end Rows
end Go.Proofs.Ytjdfekampbbkaaa
