/-
  No cell of these rows narrows 'for every input' (looked for: loops, veiled, ifaces, maps, wideKeys, modest, calm, conditions, laid).
  DERIVED. THE GIVEN ROWS OF THIS SEAT. 5 by the template 'for every input the law returns true; each argument reads behind the call as it read before'; 0 by the template 'total and deterministic' (their statements: YteiaengicalapaaTotals.lean).
  GIVEN WITH THE SEED: the statements are not yours to turn. If you find one false, say at which input.
  Laid BY PROGRAM, IN A SANDBOX (cutbox-rows.mjs): the forced cells as the released guide's own fill.sh prints them over the translation 1f8be64afe4eb4a5… (all of the seat's roots in one cut). By AI agents, Wed Nov 11 2026. No macro, syntax, notation, axiom, sorry.
-/
import Derived.Test.YteiaengicalapaaChecked
import GoSem.Claim
import GoSem.ClaimJoined
import GoSem.ClaimMapViews
import Derived.JoinedTies
import Derived.KernelRfl
namespace Go.Proofs.Yteiaengicalapaa
/- THE CELL 'sum', in the pinned program and in every row, IS THE sha256 OF THE DUMP (.gsa) THAT YteiaengicalapaaProg.lean LOADS. Nothing in Lean hashes anything: it is a label: what it is worth is what the hold of that sum in a sandbox is worth. -/
noncomputable def Try.pinned : Pinned := { name := "yteiaengicalapaa", sum := "1f8be64afe4eb4a55901188466627848a0064cb24385b07a15eeded7885bc807", checked := Try.checked }
namespace Rows
def none {H : Type} : Left H := { results := [], args := [] }

/-- 'palimplaw6.UberAll': WHATEVER THE INPUT: true; the input reads as it did. -/
def uberAllSpec : ChangeSpec := { name := "uberAll", fn := fun _ => fun
  | [d1, d2, d3, d4, d5, d6, d7] => { results := [.lit (.bool true)], args := [d1, d2, d3, d4, d5, d6, d7] }
  | _ => none }
def uberAllRow : OpenClaim := { program := "yteiaengicalapaa", sum := "1f8be64afe4eb4a55901188466627848a0064cb24385b07a15eeded7885bc807", func := "palimp/palimplaw6.UberAll", spec := "uberAll", inPlace := ["internal/abi.NoEscape", "internal/bytealg.MakeNoZero"], apart := false }
def UberAllSaid : Prop := uberAllRow.holds Try.pinned (OpenSpec.ofChange uberAllSpec)

/-- ITS FALSE NEIGHBOUR: 'it returns false'. Refute it at one input. -/
def uberAllWrong : ChangeSpec := { name := "uberAll", fn := fun _ => fun
  | [d1, d2, d3, d4, d5, d6, d7] => { results := [.lit (.bool false)], args := [d1, d2, d3, d4, d5, d6, d7] }
  | _ => none }
def UberAllWrongFalsely : Prop := uberAllRow.holds Try.pinned (OpenSpec.ofChange uberAllWrong)

/-- 'palimplaw6.UberTurned': WHATEVER THE INPUT: true; the input reads as it did. -/
def uberTurnedSpec : ChangeSpec := { name := "uberTurned", fn := fun _ => fun
  | [d1, d2, d3] => { results := [.lit (.bool true)], args := [d1, d2, d3] }
  | _ => none }
def uberTurnedRow : OpenClaim := { program := "yteiaengicalapaa", sum := "1f8be64afe4eb4a55901188466627848a0064cb24385b07a15eeded7885bc807", func := "palimp/palimplaw6.UberTurned", spec := "uberTurned", inPlace := ["internal/abi.NoEscape", "internal/bytealg.MakeNoZero"], apart := false }
def UberTurnedSaid : Prop := uberTurnedRow.holds Try.pinned (OpenSpec.ofChange uberTurnedSpec)

/-- ITS FALSE NEIGHBOUR: 'it returns false'. Refute it at one input. -/
def uberTurnedWrong : ChangeSpec := { name := "uberTurned", fn := fun _ => fun
  | [d1, d2, d3] => { results := [.lit (.bool false)], args := [d1, d2, d3] }
  | _ => none }
def UberTurnedWrongFalsely : Prop := uberTurnedRow.holds Try.pinned (OpenSpec.ofChange uberTurnedWrong)

/-- 'palimplaw6.UberForms': WHATEVER THE INPUT: true; the input reads as it did. -/
def uberFormsSpec : ChangeSpec := { name := "uberForms", fn := fun _ => fun
  | [] => { results := [.lit (.bool true)], args := [] }
  | _ => none }
def uberFormsRow : OpenClaim := { program := "yteiaengicalapaa", sum := "1f8be64afe4eb4a55901188466627848a0064cb24385b07a15eeded7885bc807", func := "palimp/palimplaw6.UberForms", spec := "uberForms", inPlace := ["internal/abi.NoEscape", "internal/bytealg.MakeNoZero"], apart := false }
def UberFormsSaid : Prop := uberFormsRow.holds Try.pinned (OpenSpec.ofChange uberFormsSpec)

/-- ITS FALSE NEIGHBOUR: 'it returns false'. Refute it at one input. -/
def uberFormsWrong : ChangeSpec := { name := "uberForms", fn := fun _ => fun
  | [] => { results := [.lit (.bool false)], args := [] }
  | _ => none }
def UberFormsWrongFalsely : Prop := uberFormsRow.holds Try.pinned (OpenSpec.ofChange uberFormsWrong)

/-- 'palimplaw6.UberHalf': WHATEVER THE INPUT: true; the input reads as it did. -/
def uberHalfSpec : ChangeSpec := { name := "uberHalf", fn := fun _ => fun
  | [d1, d2] => { results := [.lit (.bool true)], args := [d1, d2] }
  | _ => none }
def uberHalfRow : OpenClaim := { program := "yteiaengicalapaa", sum := "1f8be64afe4eb4a55901188466627848a0064cb24385b07a15eeded7885bc807", func := "palimp/palimplaw6.UberHalf", spec := "uberHalf", inPlace := ["internal/abi.NoEscape", "internal/bytealg.MakeNoZero"], apart := false }
def UberHalfSaid : Prop := uberHalfRow.holds Try.pinned (OpenSpec.ofChange uberHalfSpec)

/-- ITS FALSE NEIGHBOUR: 'it returns false'. Refute it at one input. -/
def uberHalfWrong : ChangeSpec := { name := "uberHalf", fn := fun _ => fun
  | [d1, d2] => { results := [.lit (.bool false)], args := [d1, d2] }
  | _ => none }
def UberHalfWrongFalsely : Prop := uberHalfRow.holds Try.pinned (OpenSpec.ofChange uberHalfWrong)

/-- 'palimplaw6.UberBack': WHATEVER THE INPUT: true; the input reads as it did. -/
def uberBackSpec : ChangeSpec := { name := "uberBack", fn := fun _ => fun
  | [d1, d2] => { results := [.lit (.bool true)], args := [d1, d2] }
  | _ => none }
def uberBackRow : OpenClaim := { program := "yteiaengicalapaa", sum := "1f8be64afe4eb4a55901188466627848a0064cb24385b07a15eeded7885bc807", func := "palimp/palimplaw6.UberBack", spec := "uberBack", inPlace := ["internal/abi.NoEscape", "internal/bytealg.MakeNoZero"], apart := false }
def UberBackSaid : Prop := uberBackRow.holds Try.pinned (OpenSpec.ofChange uberBackSpec)

/-- ITS FALSE NEIGHBOUR: 'it returns false'. Refute it at one input. -/
def uberBackWrong : ChangeSpec := { name := "uberBack", fn := fun _ => fun
  | [d1, d2] => { results := [.lit (.bool false)], args := [d1, d2] }
  | _ => none }
def UberBackWrongFalsely : Prop := uberBackRow.holds Try.pinned (OpenSpec.ofChange uberBackWrong)

/- THE SECOND FORM. 'bulk': how many values and letters a reading holds, each counted each time it is reached (what is shared counts as often as it is met; a slice's spare places count too). A statement '..UptoSaid' is the law's where the arguments, and the package variables that the reading takes, are together of bulk at most 1048576: NARROWER than '..Said'. Prove '..Said' where nothing that the law and all that it calls make is longer than what came in: it says more and counts as full. Else prove '..UptoSaid'. A law counts once. -/
mutual
def uptoBulk {H : Type} : DataW H → Nat
  | .lit (.string bytes) => bytes.length + 1
  | .lit _ => 1
  | .nil => 1
  | .ptr d => uptoBulk d + 1
  | .slice elems spare => uptoBulkAll elems + uptoBulkAll spare + 1
  | .agg parts => uptoBulkAll parts + 1
  | .iface _ d => uptoBulk d + 1
  | .map entries => uptoBulkEntries entries + 1
  | .held _ => 1
def uptoBulkAll {H : Type} : List (DataW H) → Nat
  | [] => 0
  | d :: r => uptoBulk d + uptoBulkAll r
def uptoBulkEntries {H : Type} : List (Lit × DataW H) → Nat
  | [] => 0
  | x :: r => uptoBulkEntry x + uptoBulkEntries r
def uptoBulkEntry {H : Type} : Lit × DataW H → Nat
  | (.string bytes, d) => bytes.length + uptoBulk d + 1
  | (_, d) => uptoBulk d + 1
 end
def uptoSmall : (H : Type) → List (DataW H) → Bool := fun _ ds => decide (uptoBulkAll ds ≤ 1048576)
def OpenSpec.upto (s : _root_.Go.ChangeSpec) : _root_.Go.OpenSpec := { _root_.Go.OpenSpec.ofChange s with cond := some uptoSmall }

/-- 'palimplaw6.UberAll', WHERE WHAT IT READS IS OF BULK AT MOST 1048576: true; the input reads as it did. -/
def uberAllUptoRow : OpenClaim := { program := "yteiaengicalapaa", sum := "1f8be64afe4eb4a55901188466627848a0064cb24385b07a15eeded7885bc807", func := "palimp/palimplaw6.UberAll", spec := "uberAll", inPlace := ["internal/abi.NoEscape", "internal/bytealg.MakeNoZero"], apart := false, narrowed := true }
def UberAllUptoSaid : Prop := uberAllUptoRow.holds Try.pinned (OpenSpec.upto uberAllSpec)

/-- 'palimplaw6.UberTurned', WHERE WHAT IT READS IS OF BULK AT MOST 1048576: true; the input reads as it did. -/
def uberTurnedUptoRow : OpenClaim := { program := "yteiaengicalapaa", sum := "1f8be64afe4eb4a55901188466627848a0064cb24385b07a15eeded7885bc807", func := "palimp/palimplaw6.UberTurned", spec := "uberTurned", inPlace := ["internal/abi.NoEscape", "internal/bytealg.MakeNoZero"], apart := false, narrowed := true }
def UberTurnedUptoSaid : Prop := uberTurnedUptoRow.holds Try.pinned (OpenSpec.upto uberTurnedSpec)

/-- 'palimplaw6.UberForms', WHERE WHAT IT READS IS OF BULK AT MOST 1048576: true; the input reads as it did. -/
def uberFormsUptoRow : OpenClaim := { program := "yteiaengicalapaa", sum := "1f8be64afe4eb4a55901188466627848a0064cb24385b07a15eeded7885bc807", func := "palimp/palimplaw6.UberForms", spec := "uberForms", inPlace := ["internal/abi.NoEscape", "internal/bytealg.MakeNoZero"], apart := false, narrowed := true }
def UberFormsUptoSaid : Prop := uberFormsUptoRow.holds Try.pinned (OpenSpec.upto uberFormsSpec)

/-- 'palimplaw6.UberHalf', WHERE WHAT IT READS IS OF BULK AT MOST 1048576: true; the input reads as it did. -/
def uberHalfUptoRow : OpenClaim := { program := "yteiaengicalapaa", sum := "1f8be64afe4eb4a55901188466627848a0064cb24385b07a15eeded7885bc807", func := "palimp/palimplaw6.UberHalf", spec := "uberHalf", inPlace := ["internal/abi.NoEscape", "internal/bytealg.MakeNoZero"], apart := false, narrowed := true }
def UberHalfUptoSaid : Prop := uberHalfUptoRow.holds Try.pinned (OpenSpec.upto uberHalfSpec)

/-- 'palimplaw6.UberBack', WHERE WHAT IT READS IS OF BULK AT MOST 1048576: true; the input reads as it did. -/
def uberBackUptoRow : OpenClaim := { program := "yteiaengicalapaa", sum := "1f8be64afe4eb4a55901188466627848a0064cb24385b07a15eeded7885bc807", func := "palimp/palimplaw6.UberBack", spec := "uberBack", inPlace := ["internal/abi.NoEscape", "internal/bytealg.MakeNoZero"], apart := false, narrowed := true }
def UberBackUptoSaid : Prop := uberBackUptoRow.holds Try.pinned (OpenSpec.upto uberBackSpec)

end Rows
end Go.Proofs.Yteiaengicalapaa
