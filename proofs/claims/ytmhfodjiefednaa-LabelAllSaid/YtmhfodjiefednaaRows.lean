/-
  No cell of these rows narrows 'for every input' (looked for: loops, veiled, ifaces, maps, wideKeys, modest, calm, conditions, laid).
  DERIVED. THE GIVEN ROWS OF THIS SEAT. 6 by the template 'for every input the law returns true; each argument reads behind the call as it read before'; 0 by the template 'total and deterministic' (their statements: YtmhfodjiefednaaTotals.lean).
  GIVEN WITH THE SEED: the statements are not yours to turn. If you find one false, say at which input.
  Laid BY PROGRAM, IN A SANDBOX (cutbox-rows.mjs): the forced cells as the released guide's own fill.sh prints them over the translation 919f3b2fad4f52d7… (all of the seat's roots in one cut). By AI agents, Wed Nov 11 2026. No macro, syntax, notation, axiom, sorry.
-/
import Derived.Test.YtmhfodjiefednaaChecked
import GoSem.Claim
import GoSem.ClaimJoined
import GoSem.ClaimMapViews
import Derived.JoinedTies
import Derived.KernelRfl
namespace Go.Proofs.Ytmhfodjiefednaa
/- THE CELL 'sum', in the pinned program and in every row, IS THE sha256 OF THE DUMP (.gsa) THAT YtmhfodjiefednaaProg.lean LOADS. Nothing in Lean hashes anything: it is a label: what it is worth is what the hold of that sum in a sandbox is worth. -/
noncomputable def Try.pinned : Pinned := { name := "ytmhfodjiefednaa", sum := "919f3b2fad4f52d7c26642d62030f3f05c82371258edc1040794eda0b2d88b93", checked := Try.checked }
namespace Rows
def none {H : Type} : Left H := { results := [], args := [] }

/-- 'palimplaw7.LabelAll': WHATEVER THE INPUT: true; the input reads as it did. -/
def labelAllSpec : ChangeSpec := { name := "labelAll", fn := fun _ => fun
  | [d1, d2, d3, d4, d5, d6, d7, d8] => { results := [.lit (.bool true)], args := [d1, d2, d3, d4, d5, d6, d7, d8] }
  | _ => none }
def labelAllRow : OpenClaim := { program := "ytmhfodjiefednaa", sum := "919f3b2fad4f52d7c26642d62030f3f05c82371258edc1040794eda0b2d88b93", func := "palimp/palimplaw7.LabelAll", spec := "labelAll", inPlace := ["internal/abi.NoEscape", "internal/bytealg.MakeNoZero"], unfollowed := true, recurses := true, apart := false }
def LabelAllSaid : Prop := labelAllRow.holds Try.pinned (OpenSpec.ofChange labelAllSpec)

/-- ITS FALSE NEIGHBOUR: 'it returns false'. Refute it at one input. -/
def labelAllWrong : ChangeSpec := { name := "labelAll", fn := fun _ => fun
  | [d1, d2, d3, d4, d5, d6, d7, d8] => { results := [.lit (.bool false)], args := [d1, d2, d3, d4, d5, d6, d7, d8] }
  | _ => none }
def LabelAllWrongFalsely : Prop := labelAllRow.holds Try.pinned (OpenSpec.ofChange labelAllWrong)

/-- 'palimplaw7.LabelOne': WHATEVER THE INPUT: true; the input reads as it did. -/
def labelOneSpec : ChangeSpec := { name := "labelOne", fn := fun _ => fun
  | [d1, d2] => { results := [.lit (.bool true)], args := [d1, d2] }
  | _ => none }
def labelOneRow : OpenClaim := { program := "ytmhfodjiefednaa", sum := "919f3b2fad4f52d7c26642d62030f3f05c82371258edc1040794eda0b2d88b93", func := "palimp/palimplaw7.LabelOne", spec := "labelOne", inPlace := ["internal/abi.NoEscape", "internal/bytealg.MakeNoZero"], unfollowed := true, recurses := true, apart := false }
def LabelOneSaid : Prop := labelOneRow.holds Try.pinned (OpenSpec.ofChange labelOneSpec)

/-- ITS FALSE NEIGHBOUR: 'it returns false'. Refute it at one input. -/
def labelOneWrong : ChangeSpec := { name := "labelOne", fn := fun _ => fun
  | [d1, d2] => { results := [.lit (.bool false)], args := [d1, d2] }
  | _ => none }
def LabelOneWrongFalsely : Prop := labelOneRow.holds Try.pinned (OpenSpec.ofChange labelOneWrong)

/-- 'palimplaw7.LabelApart': WHATEVER THE INPUT: true; the input reads as it did. -/
def labelApartSpec : ChangeSpec := { name := "labelApart", fn := fun _ => fun
  | [d] => { results := [.lit (.bool true)], args := [d] }
  | _ => none }
def labelApartRow : OpenClaim := { program := "ytmhfodjiefednaa", sum := "919f3b2fad4f52d7c26642d62030f3f05c82371258edc1040794eda0b2d88b93", func := "palimp/palimplaw7.LabelApart", spec := "labelApart", inPlace := ["internal/abi.NoEscape", "internal/bytealg.MakeNoZero"], unfollowed := true, recurses := true, apart := false }
def LabelApartSaid : Prop := labelApartRow.holds Try.pinned (OpenSpec.ofChange labelApartSpec)

/-- ITS FALSE NEIGHBOUR: 'it returns false'. Refute it at one input. -/
def labelApartWrong : ChangeSpec := { name := "labelApart", fn := fun _ => fun
  | [d] => { results := [.lit (.bool false)], args := [d] }
  | _ => none }
def LabelApartWrongFalsely : Prop := labelApartRow.holds Try.pinned (OpenSpec.ofChange labelApartWrong)

/-- 'palimplaw7.LabelRing': WHATEVER THE INPUT: true; the input reads as it did. -/
def labelRingSpec : ChangeSpec := { name := "labelRing", fn := fun _ => fun
  | [d1, d2] => { results := [.lit (.bool true)], args := [d1, d2] }
  | _ => none }
def labelRingRow : OpenClaim := { program := "ytmhfodjiefednaa", sum := "919f3b2fad4f52d7c26642d62030f3f05c82371258edc1040794eda0b2d88b93", func := "palimp/palimplaw7.LabelRing", spec := "labelRing", inPlace := ["internal/abi.NoEscape", "internal/bytealg.MakeNoZero"], unfollowed := true, recurses := true, apart := false }
def LabelRingSaid : Prop := labelRingRow.holds Try.pinned (OpenSpec.ofChange labelRingSpec)

/-- ITS FALSE NEIGHBOUR: 'it returns false'. Refute it at one input. -/
def labelRingWrong : ChangeSpec := { name := "labelRing", fn := fun _ => fun
  | [d1, d2] => { results := [.lit (.bool false)], args := [d1, d2] }
  | _ => none }
def LabelRingWrongFalsely : Prop := labelRingRow.holds Try.pinned (OpenSpec.ofChange labelRingWrong)

/-- 'palimplaw7.LabelTurned': WHATEVER THE INPUT: true; the input reads as it did. -/
def labelTurnedSpec : ChangeSpec := { name := "labelTurned", fn := fun _ => fun
  | [d1, d2, d3, d4] => { results := [.lit (.bool true)], args := [d1, d2, d3, d4] }
  | _ => none }
def labelTurnedRow : OpenClaim := { program := "ytmhfodjiefednaa", sum := "919f3b2fad4f52d7c26642d62030f3f05c82371258edc1040794eda0b2d88b93", func := "palimp/palimplaw7.LabelTurned", spec := "labelTurned", inPlace := ["internal/abi.NoEscape", "internal/bytealg.MakeNoZero"], unfollowed := true, recurses := true, apart := false }
def LabelTurnedSaid : Prop := labelTurnedRow.holds Try.pinned (OpenSpec.ofChange labelTurnedSpec)

/-- ITS FALSE NEIGHBOUR: 'it returns false'. Refute it at one input. -/
def labelTurnedWrong : ChangeSpec := { name := "labelTurned", fn := fun _ => fun
  | [d1, d2, d3, d4] => { results := [.lit (.bool false)], args := [d1, d2, d3, d4] }
  | _ => none }
def LabelTurnedWrongFalsely : Prop := labelTurnedRow.holds Try.pinned (OpenSpec.ofChange labelTurnedWrong)

/-- 'palimplaw7.LabelHalves': WHATEVER THE INPUT: true; the input reads as it did. -/
def labelHalvesSpec : ChangeSpec := { name := "labelHalves", fn := fun _ => fun
  | [d1, d2] => { results := [.lit (.bool true)], args := [d1, d2] }
  | _ => none }
def labelHalvesRow : OpenClaim := { program := "ytmhfodjiefednaa", sum := "919f3b2fad4f52d7c26642d62030f3f05c82371258edc1040794eda0b2d88b93", func := "palimp/palimplaw7.LabelHalves", spec := "labelHalves", inPlace := ["internal/abi.NoEscape", "internal/bytealg.MakeNoZero"], unfollowed := true, recurses := true, apart := false }
def LabelHalvesSaid : Prop := labelHalvesRow.holds Try.pinned (OpenSpec.ofChange labelHalvesSpec)

/-- ITS FALSE NEIGHBOUR: 'it returns false'. Refute it at one input. -/
def labelHalvesWrong : ChangeSpec := { name := "labelHalves", fn := fun _ => fun
  | [d1, d2] => { results := [.lit (.bool false)], args := [d1, d2] }
  | _ => none }
def LabelHalvesWrongFalsely : Prop := labelHalvesRow.holds Try.pinned (OpenSpec.ofChange labelHalvesWrong)

/- THE SECOND FORM. 'bulk': how many values and letters a reading holds, each counted each time it is reached (what is shared counts as often as it is met; a slice's spare places count too). A statement '..UptoSaid' is the law's where the arguments, and the package variables that the reading takes, are together of bulk at most 1048576: NARROWER than '..Said'. Prove '..Said' where nothing that the law and all that it calls make is longer than what came in: it says more and counts as full. Else prove '..UptoSaid'. A law counts once. -/
mutual
def uptoBulk {H : Type} : DataW H → Nat
  | .lit (.string bytes) => bytes.length + 1
  | .lit _ => 1
  | .nil => 1
  | .ptr d => uptoBulk d + 1
  | .slice elems spare => uptoBulkAll elems + uptoBulkAll spare + 1
  | .agg parts => uptoBulkAll parts + 1
  | .iface _ d => uptoBulk d + 1
  | .map entries => uptoBulkEntries entries + 1
  | .held _ => 1
def uptoBulkAll {H : Type} : List (DataW H) → Nat
  | [] => 0
  | d :: r => uptoBulk d + uptoBulkAll r
def uptoBulkEntries {H : Type} : List (Lit × DataW H) → Nat
  | [] => 0
  | x :: r => uptoBulkEntry x + uptoBulkEntries r
def uptoBulkEntry {H : Type} : Lit × DataW H → Nat
  | (.string bytes, d) => bytes.length + uptoBulk d + 1
  | (_, d) => uptoBulk d + 1
 end
def uptoSmall : (H : Type) → List (DataW H) → Bool := fun _ ds => decide (uptoBulkAll ds ≤ 1048576)
def OpenSpec.upto (s : _root_.Go.ChangeSpec) : _root_.Go.OpenSpec := { _root_.Go.OpenSpec.ofChange s with cond := some uptoSmall }

/-- 'palimplaw7.LabelAll', WHERE WHAT IT READS IS OF BULK AT MOST 1048576: true; the input reads as it did. -/
def labelAllUptoRow : OpenClaim := { program := "ytmhfodjiefednaa", sum := "919f3b2fad4f52d7c26642d62030f3f05c82371258edc1040794eda0b2d88b93", func := "palimp/palimplaw7.LabelAll", spec := "labelAll", inPlace := ["internal/abi.NoEscape", "internal/bytealg.MakeNoZero"], unfollowed := true, recurses := true, apart := false, narrowed := true }
def LabelAllUptoSaid : Prop := labelAllUptoRow.holds Try.pinned (OpenSpec.upto labelAllSpec)

/-- 'palimplaw7.LabelOne', WHERE WHAT IT READS IS OF BULK AT MOST 1048576: true; the input reads as it did. -/
def labelOneUptoRow : OpenClaim := { program := "ytmhfodjiefednaa", sum := "919f3b2fad4f52d7c26642d62030f3f05c82371258edc1040794eda0b2d88b93", func := "palimp/palimplaw7.LabelOne", spec := "labelOne", inPlace := ["internal/abi.NoEscape", "internal/bytealg.MakeNoZero"], unfollowed := true, recurses := true, apart := false, narrowed := true }
def LabelOneUptoSaid : Prop := labelOneUptoRow.holds Try.pinned (OpenSpec.upto labelOneSpec)

/-- 'palimplaw7.LabelApart', WHERE WHAT IT READS IS OF BULK AT MOST 1048576: true; the input reads as it did. -/
def labelApartUptoRow : OpenClaim := { program := "ytmhfodjiefednaa", sum := "919f3b2fad4f52d7c26642d62030f3f05c82371258edc1040794eda0b2d88b93", func := "palimp/palimplaw7.LabelApart", spec := "labelApart", inPlace := ["internal/abi.NoEscape", "internal/bytealg.MakeNoZero"], unfollowed := true, recurses := true, apart := false, narrowed := true }
def LabelApartUptoSaid : Prop := labelApartUptoRow.holds Try.pinned (OpenSpec.upto labelApartSpec)

/-- 'palimplaw7.LabelRing', WHERE WHAT IT READS IS OF BULK AT MOST 1048576: true; the input reads as it did. -/
def labelRingUptoRow : OpenClaim := { program := "ytmhfodjiefednaa", sum := "919f3b2fad4f52d7c26642d62030f3f05c82371258edc1040794eda0b2d88b93", func := "palimp/palimplaw7.LabelRing", spec := "labelRing", inPlace := ["internal/abi.NoEscape", "internal/bytealg.MakeNoZero"], unfollowed := true, recurses := true, apart := false, narrowed := true }
def LabelRingUptoSaid : Prop := labelRingUptoRow.holds Try.pinned (OpenSpec.upto labelRingSpec)

/-- 'palimplaw7.LabelTurned', WHERE WHAT IT READS IS OF BULK AT MOST 1048576: true; the input reads as it did. -/
def labelTurnedUptoRow : OpenClaim := { program := "ytmhfodjiefednaa", sum := "919f3b2fad4f52d7c26642d62030f3f05c82371258edc1040794eda0b2d88b93", func := "palimp/palimplaw7.LabelTurned", spec := "labelTurned", inPlace := ["internal/abi.NoEscape", "internal/bytealg.MakeNoZero"], unfollowed := true, recurses := true, apart := false, narrowed := true }
def LabelTurnedUptoSaid : Prop := labelTurnedUptoRow.holds Try.pinned (OpenSpec.upto labelTurnedSpec)

/-- 'palimplaw7.LabelHalves', WHERE WHAT IT READS IS OF BULK AT MOST 1048576: true; the input reads as it did. -/
def labelHalvesUptoRow : OpenClaim := { program := "ytmhfodjiefednaa", sum := "919f3b2fad4f52d7c26642d62030f3f05c82371258edc1040794eda0b2d88b93", func := "palimp/palimplaw7.LabelHalves", spec := "labelHalves", inPlace := ["internal/abi.NoEscape", "internal/bytealg.MakeNoZero"], unfollowed := true, recurses := true, apart := false, narrowed := true }
def LabelHalvesUptoSaid : Prop := labelHalvesUptoRow.holds Try.pinned (OpenSpec.upto labelHalvesSpec)

end Rows
end Go.Proofs.Ytmhfodjiefednaa
