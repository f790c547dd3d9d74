/-
  No cell of these rows narrows 'for every input' (looked for: loops, veiled, ifaces, maps, wideKeys, modest, calm, conditions, laid).
  DERIVED. THE GIVEN ROWS OF THIS SEAT. 6 by the template 'for every input the law returns true; each argument reads behind the call as it read before'; 0 by the template 'total and deterministic' (their statements: YthndajeemdfebaaTotals.lean).
  GIVEN WITH THE SEED: the statements are not yours to turn. If you find one false, say at which input.
  Laid BY PROGRAM, IN A SANDBOX (cutbox-rows.mjs): the forced cells as the released guide's own fill.sh prints them over the translation ea4865412127f639… (all of the seat's roots in one cut). By AI agents, Wed Nov 11 2026. No macro, syntax, notation, axiom, sorry.
-/
import Derived.Test.YthndajeemdfebaaChecked
import GoSem.Claim
import GoSem.ClaimJoined
import GoSem.ClaimMapViews
import Derived.JoinedTies
import Derived.KernelRfl
namespace Go.Proofs.Ythndajeemdfebaa
/- THE CELL 'sum', in the pinned program and in every row, IS THE sha256 OF THE DUMP (.gsa) THAT YthndajeemdfebaaProg.lean LOADS. Nothing in Lean hashes anything: it is a label: what it is worth is what the hold of that sum in a sandbox is worth. -/
noncomputable def Try.pinned : Pinned := { name := "ythndajeemdfebaa", sum := "ea4865412127f639d1fb27e65ba3954fb116ac02cb0a09ee87070bc79f4d9aac", checked := Try.checked }
namespace Rows
def none {H : Type} : Left H := { results := [], args := [] }

/-- 'palimplaw2.SumAll': WHATEVER THE INPUT: true; the input reads as it did. -/
def sumAllSpec : ChangeSpec := { name := "sumAll", fn := fun _ => fun
  | [d1, d2, d3] => { results := [.lit (.bool true)], args := [d1, d2, d3] }
  | _ => none }
def sumAllRow : OpenClaim := { program := "ythndajeemdfebaa", sum := "ea4865412127f639d1fb27e65ba3954fb116ac02cb0a09ee87070bc79f4d9aac", func := "palimp/palimplaw2.SumAll", spec := "sumAll", inPlace := ["internal/abi.NoEscape", "internal/bytealg.MakeNoZero"], apart := false }
def SumAllSaid : Prop := sumAllRow.holds Try.pinned (OpenSpec.ofChange sumAllSpec)

/-- ITS FALSE NEIGHBOUR: 'it returns false'. Refute it at one input. -/
def sumAllWrong : ChangeSpec := { name := "sumAll", fn := fun _ => fun
  | [d1, d2, d3] => { results := [.lit (.bool false)], args := [d1, d2, d3] }
  | _ => none }
def SumAllWrongFalsely : Prop := sumAllRow.holds Try.pinned (OpenSpec.ofChange sumAllWrong)

/-- 'palimplaw2.SumApart': WHATEVER THE INPUT: true; the input reads as it did. -/
def sumApartSpec : ChangeSpec := { name := "sumApart", fn := fun _ => fun
  | [d1, d2, d3] => { results := [.lit (.bool true)], args := [d1, d2, d3] }
  | _ => none }
def sumApartRow : OpenClaim := { program := "ythndajeemdfebaa", sum := "ea4865412127f639d1fb27e65ba3954fb116ac02cb0a09ee87070bc79f4d9aac", func := "palimp/palimplaw2.SumApart", spec := "sumApart", inPlace := ["internal/abi.NoEscape", "internal/bytealg.MakeNoZero"], apart := false }
def SumApartSaid : Prop := sumApartRow.holds Try.pinned (OpenSpec.ofChange sumApartSpec)

/-- ITS FALSE NEIGHBOUR: 'it returns false'. Refute it at one input. -/
def sumApartWrong : ChangeSpec := { name := "sumApart", fn := fun _ => fun
  | [d1, d2, d3] => { results := [.lit (.bool false)], args := [d1, d2, d3] }
  | _ => none }
def SumApartWrongFalsely : Prop := sumApartRow.holds Try.pinned (OpenSpec.ofChange sumApartWrong)

/-- 'palimplaw2.SumNoughts': WHATEVER THE INPUT: true; the input reads as it did. -/
def sumNoughtsSpec : ChangeSpec := { name := "sumNoughts", fn := fun _ => fun
  | [d1, d2] => { results := [.lit (.bool true)], args := [d1, d2] }
  | _ => none }
def sumNoughtsRow : OpenClaim := { program := "ythndajeemdfebaa", sum := "ea4865412127f639d1fb27e65ba3954fb116ac02cb0a09ee87070bc79f4d9aac", func := "palimp/palimplaw2.SumNoughts", spec := "sumNoughts", inPlace := ["internal/abi.NoEscape", "internal/bytealg.MakeNoZero"], apart := false }
def SumNoughtsSaid : Prop := sumNoughtsRow.holds Try.pinned (OpenSpec.ofChange sumNoughtsSpec)

/-- ITS FALSE NEIGHBOUR: 'it returns false'. Refute it at one input. -/
def sumNoughtsWrong : ChangeSpec := { name := "sumNoughts", fn := fun _ => fun
  | [d1, d2] => { results := [.lit (.bool false)], args := [d1, d2] }
  | _ => none }
def SumNoughtsWrongFalsely : Prop := sumNoughtsRow.holds Try.pinned (OpenSpec.ofChange sumNoughtsWrong)

/-- 'palimplaw2.SumForms': WHATEVER THE INPUT: true; the input reads as it did. -/
def sumFormsSpec : ChangeSpec := { name := "sumForms", fn := fun _ => fun
  | [] => { results := [.lit (.bool true)], args := [] }
  | _ => none }
def sumFormsRow : OpenClaim := { program := "ythndajeemdfebaa", sum := "ea4865412127f639d1fb27e65ba3954fb116ac02cb0a09ee87070bc79f4d9aac", func := "palimp/palimplaw2.SumForms", spec := "sumForms", inPlace := ["internal/abi.NoEscape", "internal/bytealg.MakeNoZero"], apart := false }
def SumFormsSaid : Prop := sumFormsRow.holds Try.pinned (OpenSpec.ofChange sumFormsSpec)

/-- ITS FALSE NEIGHBOUR: 'it returns false'. Refute it at one input. -/
def sumFormsWrong : ChangeSpec := { name := "sumForms", fn := fun _ => fun
  | [] => { results := [.lit (.bool false)], args := [] }
  | _ => none }
def SumFormsWrongFalsely : Prop := sumFormsRow.holds Try.pinned (OpenSpec.ofChange sumFormsWrong)

/-- 'palimplaw2.SumJoins': WHATEVER THE INPUT: true; the input reads as it did. -/
def sumJoinsSpec : ChangeSpec := { name := "sumJoins", fn := fun _ => fun
  | [d1, d2] => { results := [.lit (.bool true)], args := [d1, d2] }
  | _ => none }
def sumJoinsRow : OpenClaim := { program := "ythndajeemdfebaa", sum := "ea4865412127f639d1fb27e65ba3954fb116ac02cb0a09ee87070bc79f4d9aac", func := "palimp/palimplaw2.SumJoins", spec := "sumJoins", inPlace := ["internal/abi.NoEscape", "internal/bytealg.MakeNoZero"], apart := false }
def SumJoinsSaid : Prop := sumJoinsRow.holds Try.pinned (OpenSpec.ofChange sumJoinsSpec)

/-- ITS FALSE NEIGHBOUR: 'it returns false'. Refute it at one input. -/
def sumJoinsWrong : ChangeSpec := { name := "sumJoins", fn := fun _ => fun
  | [d1, d2] => { results := [.lit (.bool false)], args := [d1, d2] }
  | _ => none }
def SumJoinsWrongFalsely : Prop := sumJoinsRow.holds Try.pinned (OpenSpec.ofChange sumJoinsWrong)

/-- 'palimplaw2.SumOrder': WHATEVER THE INPUT: true; the input reads as it did. -/
def sumOrderSpec : ChangeSpec := { name := "sumOrder", fn := fun _ => fun
  | [d1, d2, d3] => { results := [.lit (.bool true)], args := [d1, d2, d3] }
  | _ => none }
def sumOrderRow : OpenClaim := { program := "ythndajeemdfebaa", sum := "ea4865412127f639d1fb27e65ba3954fb116ac02cb0a09ee87070bc79f4d9aac", func := "palimp/palimplaw2.SumOrder", spec := "sumOrder", inPlace := ["internal/abi.NoEscape", "internal/bytealg.MakeNoZero"], apart := false }
def SumOrderSaid : Prop := sumOrderRow.holds Try.pinned (OpenSpec.ofChange sumOrderSpec)

/-- ITS FALSE NEIGHBOUR: 'it returns false'. Refute it at one input. -/
def sumOrderWrong : ChangeSpec := { name := "sumOrder", fn := fun _ => fun
  | [d1, d2, d3] => { results := [.lit (.bool false)], args := [d1, d2, d3] }
  | _ => none }
def SumOrderWrongFalsely : Prop := sumOrderRow.holds Try.pinned (OpenSpec.ofChange sumOrderWrong)

/- THE SECOND FORM. 'bulk': how many values and letters a reading holds, each counted each time it is reached (what is shared counts as often as it is met; a slice's spare places count too). A statement '..UptoSaid' is the law's where the arguments, and the package variables that the reading takes, are together of bulk at most 1048576: NARROWER than '..Said'. Prove '..Said' where nothing that the law and all that it calls make is longer than what came in: it says more and counts as full. Else prove '..UptoSaid'. A law counts once. -/
mutual
def uptoBulk {H : Type} : DataW H → Nat
  | .lit (.string bytes) => bytes.length + 1
  | .lit _ => 1
  | .nil => 1
  | .ptr d => uptoBulk d + 1
  | .slice elems spare => uptoBulkAll elems + uptoBulkAll spare + 1
  | .agg parts => uptoBulkAll parts + 1
  | .iface _ d => uptoBulk d + 1
  | .map entries => uptoBulkEntries entries + 1
  | .held _ => 1
def uptoBulkAll {H : Type} : List (DataW H) → Nat
  | [] => 0
  | d :: r => uptoBulk d + uptoBulkAll r
def uptoBulkEntries {H : Type} : List (Lit × DataW H) → Nat
  | [] => 0
  | x :: r => uptoBulkEntry x + uptoBulkEntries r
def uptoBulkEntry {H : Type} : Lit × DataW H → Nat
  | (.string bytes, d) => bytes.length + uptoBulk d + 1
  | (_, d) => uptoBulk d + 1
 end
def uptoSmall : (H : Type) → List (DataW H) → Bool := fun _ ds => decide (uptoBulkAll ds ≤ 1048576)
def OpenSpec.upto (s : _root_.Go.ChangeSpec) : _root_.Go.OpenSpec := { _root_.Go.OpenSpec.ofChange s with cond := some uptoSmall }

/-- 'palimplaw2.SumAll', WHERE WHAT IT READS IS OF BULK AT MOST 1048576: true; the input reads as it did. -/
def sumAllUptoRow : OpenClaim := { program := "ythndajeemdfebaa", sum := "ea4865412127f639d1fb27e65ba3954fb116ac02cb0a09ee87070bc79f4d9aac", func := "palimp/palimplaw2.SumAll", spec := "sumAll", inPlace := ["internal/abi.NoEscape", "internal/bytealg.MakeNoZero"], apart := false, narrowed := true }
def SumAllUptoSaid : Prop := sumAllUptoRow.holds Try.pinned (OpenSpec.upto sumAllSpec)

/-- 'palimplaw2.SumApart', WHERE WHAT IT READS IS OF BULK AT MOST 1048576: true; the input reads as it did. -/
def sumApartUptoRow : OpenClaim := { program := "ythndajeemdfebaa", sum := "ea4865412127f639d1fb27e65ba3954fb116ac02cb0a09ee87070bc79f4d9aac", func := "palimp/palimplaw2.SumApart", spec := "sumApart", inPlace := ["internal/abi.NoEscape", "internal/bytealg.MakeNoZero"], apart := false, narrowed := true }
def SumApartUptoSaid : Prop := sumApartUptoRow.holds Try.pinned (OpenSpec.upto sumApartSpec)

/-- 'palimplaw2.SumNoughts', WHERE WHAT IT READS IS OF BULK AT MOST 1048576: true; the input reads as it did. -/
def sumNoughtsUptoRow : OpenClaim := { program := "ythndajeemdfebaa", sum := "ea4865412127f639d1fb27e65ba3954fb116ac02cb0a09ee87070bc79f4d9aac", func := "palimp/palimplaw2.SumNoughts", spec := "sumNoughts", inPlace := ["internal/abi.NoEscape", "internal/bytealg.MakeNoZero"], apart := false, narrowed := true }
def SumNoughtsUptoSaid : Prop := sumNoughtsUptoRow.holds Try.pinned (OpenSpec.upto sumNoughtsSpec)

/-- 'palimplaw2.SumForms', WHERE WHAT IT READS IS OF BULK AT MOST 1048576: true; the input reads as it did. -/
def sumFormsUptoRow : OpenClaim := { program := "ythndajeemdfebaa", sum := "ea4865412127f639d1fb27e65ba3954fb116ac02cb0a09ee87070bc79f4d9aac", func := "palimp/palimplaw2.SumForms", spec := "sumForms", inPlace := ["internal/abi.NoEscape", "internal/bytealg.MakeNoZero"], apart := false, narrowed := true }
def SumFormsUptoSaid : Prop := sumFormsUptoRow.holds Try.pinned (OpenSpec.upto sumFormsSpec)

/-- 'palimplaw2.SumJoins', WHERE WHAT IT READS IS OF BULK AT MOST 1048576: true; the input reads as it did. -/
def sumJoinsUptoRow : OpenClaim := { program := "ythndajeemdfebaa", sum := "ea4865412127f639d1fb27e65ba3954fb116ac02cb0a09ee87070bc79f4d9aac", func := "palimp/palimplaw2.SumJoins", spec := "sumJoins", inPlace := ["internal/abi.NoEscape", "internal/bytealg.MakeNoZero"], apart := false, narrowed := true }
def SumJoinsUptoSaid : Prop := sumJoinsUptoRow.holds Try.pinned (OpenSpec.upto sumJoinsSpec)

/-- 'palimplaw2.SumOrder', WHERE WHAT IT READS IS OF BULK AT MOST 1048576: true; the input reads as it did. -/
def sumOrderUptoRow : OpenClaim := { program := "ythndajeemdfebaa", sum := "ea4865412127f639d1fb27e65ba3954fb116ac02cb0a09ee87070bc79f4d9aac", func := "palimp/palimplaw2.SumOrder", spec := "sumOrder", inPlace := ["internal/abi.NoEscape", "internal/bytealg.MakeNoZero"], apart := false, narrowed := true }
def SumOrderUptoSaid : Prop := sumOrderUptoRow.holds Try.pinned (OpenSpec.upto sumOrderSpec)

end Rows
end Go.Proofs.Ythndajeemdfebaa
