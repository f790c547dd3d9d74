/-
  No cell of these rows narrows 'for every input' (looked for: loops, veiled, ifaces, maps, wideKeys, modest, calm, conditions, laid).
  DERIVED. THE GIVEN ROWS OF THIS SEAT. 5 by the template 'for every input the law returns true; each argument reads behind the call as it read before'; 0 by the template 'total and deterministic' (their statements: YtjpgcfniahaelaaTotals.lean).
  GIVEN WITH THE SEED: the statements are not yours to turn. If you find one false, say at which input.
  Laid BY PROGRAM, IN A SANDBOX (cutbox-rows.mjs): the forced cells as the released guide's own fill.sh prints them over the translation 530ea1ca451e8e39… (all of the seat's roots in one cut). By AI agents, Wed Nov 11 2026. No macro, syntax, notation, axiom, sorry.
-/
import Derived.Test.YtjpgcfniahaelaaChecked
import GoSem.Claim
import GoSem.ClaimJoined
import GoSem.ClaimMapViews
import Derived.JoinedTies
import Derived.KernelRfl
namespace Go.Proofs.Ytjpgcfniahaelaa
/- THE CELL 'sum', in the pinned program and in every row, IS THE sha256 OF THE DUMP (.gsa) THAT YtjpgcfniahaelaaProg.lean LOADS. Nothing in Lean hashes anything: it is a label: what it is worth is what the hold of that sum in a sandbox is worth. -/
noncomputable def Try.pinned : Pinned := { name := "ytjpgcfniahaelaa", sum := "530ea1ca451e8e39f3266bbf8470f190afc6be97def0efdc0a529177481a8646", checked := Try.checked }
namespace Rows
def none {H : Type} : Left H := { results := [], args := [] }

/-- 'palimplaw5.BlockAll': WHATEVER THE INPUT: true; the input reads as it did. -/
def blockAllSpec : ChangeSpec := { name := "blockAll", fn := fun _ => fun
  | [d1, d2, d3, d4, d5, d6, d7, d8, d9] => { results := [.lit (.bool true)], args := [d1, d2, d3, d4, d5, d6, d7, d8, d9] }
  | _ => none }
def blockAllRow : OpenClaim := { program := "ytjpgcfniahaelaa", sum := "530ea1ca451e8e39f3266bbf8470f190afc6be97def0efdc0a529177481a8646", func := "palimp/palimplaw5.BlockAll", spec := "blockAll", inPlace := ["internal/abi.NoEscape", "internal/bytealg.MakeNoZero"], unfollowed := true, recurses := true, apart := false }
def BlockAllSaid : Prop := blockAllRow.holds Try.pinned (OpenSpec.ofChange blockAllSpec)

/-- ITS FALSE NEIGHBOUR: 'it returns false'. Refute it at one input. -/
def blockAllWrong : ChangeSpec := { name := "blockAll", fn := fun _ => fun
  | [d1, d2, d3, d4, d5, d6, d7, d8, d9] => { results := [.lit (.bool false)], args := [d1, d2, d3, d4, d5, d6, d7, d8, d9] }
  | _ => none }
def BlockAllWrongFalsely : Prop := blockAllRow.holds Try.pinned (OpenSpec.ofChange blockAllWrong)

/-- 'palimplaw5.BlockReads': WHATEVER THE INPUT: true; the input reads as it did. -/
def blockReadsSpec : ChangeSpec := { name := "blockReads", fn := fun _ => fun
  | [d1, d2, d3, d4, d5, d6, d7] => { results := [.lit (.bool true)], args := [d1, d2, d3, d4, d5, d6, d7] }
  | _ => none }
def blockReadsRow : OpenClaim := { program := "ytjpgcfniahaelaa", sum := "530ea1ca451e8e39f3266bbf8470f190afc6be97def0efdc0a529177481a8646", func := "palimp/palimplaw5.BlockReads", spec := "blockReads", inPlace := ["internal/abi.NoEscape", "internal/bytealg.MakeNoZero"], unfollowed := true, recurses := true, apart := false }
def BlockReadsSaid : Prop := blockReadsRow.holds Try.pinned (OpenSpec.ofChange blockReadsSpec)

/-- ITS FALSE NEIGHBOUR: 'it returns false'. Refute it at one input. -/
def blockReadsWrong : ChangeSpec := { name := "blockReads", fn := fun _ => fun
  | [d1, d2, d3, d4, d5, d6, d7] => { results := [.lit (.bool false)], args := [d1, d2, d3, d4, d5, d6, d7] }
  | _ => none }
def BlockReadsWrongFalsely : Prop := blockReadsRow.holds Try.pinned (OpenSpec.ofChange blockReadsWrong)

/-- 'palimplaw5.BlockForms': WHATEVER THE INPUT: true; the input reads as it did. -/
def blockFormsSpec : ChangeSpec := { name := "blockForms", fn := fun _ => fun
  | [] => { results := [.lit (.bool true)], args := [] }
  | _ => none }
def blockFormsRow : OpenClaim := { program := "ytjpgcfniahaelaa", sum := "530ea1ca451e8e39f3266bbf8470f190afc6be97def0efdc0a529177481a8646", func := "palimp/palimplaw5.BlockForms", spec := "blockForms", inPlace := ["internal/abi.NoEscape", "internal/bytealg.MakeNoZero"], unfollowed := true, recurses := true, apart := false }
def BlockFormsSaid : Prop := blockFormsRow.holds Try.pinned (OpenSpec.ofChange blockFormsSpec)

/-- ITS FALSE NEIGHBOUR: 'it returns false'. Refute it at one input. -/
def blockFormsWrong : ChangeSpec := { name := "blockForms", fn := fun _ => fun
  | [] => { results := [.lit (.bool false)], args := [] }
  | _ => none }
def BlockFormsWrongFalsely : Prop := blockFormsRow.holds Try.pinned (OpenSpec.ofChange blockFormsWrong)

/-- 'palimplaw5.BlockTurned': WHATEVER THE INPUT: true; the input reads as it did. -/
def blockTurnedSpec : ChangeSpec := { name := "blockTurned", fn := fun _ => fun
  | [d1, d2, d3, d4, d5] => { results := [.lit (.bool true)], args := [d1, d2, d3, d4, d5] }
  | _ => none }
def blockTurnedRow : OpenClaim := { program := "ytjpgcfniahaelaa", sum := "530ea1ca451e8e39f3266bbf8470f190afc6be97def0efdc0a529177481a8646", func := "palimp/palimplaw5.BlockTurned", spec := "blockTurned", inPlace := ["internal/abi.NoEscape", "internal/bytealg.MakeNoZero"], unfollowed := true, recurses := true, apart := false }
def BlockTurnedSaid : Prop := blockTurnedRow.holds Try.pinned (OpenSpec.ofChange blockTurnedSpec)

/-- ITS FALSE NEIGHBOUR: 'it returns false'. Refute it at one input. -/
def blockTurnedWrong : ChangeSpec := { name := "blockTurned", fn := fun _ => fun
  | [d1, d2, d3, d4, d5] => { results := [.lit (.bool false)], args := [d1, d2, d3, d4, d5] }
  | _ => none }
def BlockTurnedWrongFalsely : Prop := blockTurnedRow.holds Try.pinned (OpenSpec.ofChange blockTurnedWrong)

/-- 'palimplaw5.BlockBack': WHATEVER THE INPUT: true; the input reads as it did. -/
def blockBackSpec : ChangeSpec := { name := "blockBack", fn := fun _ => fun
  | [d1, d2, d3, d4, d5, d6] => { results := [.lit (.bool true)], args := [d1, d2, d3, d4, d5, d6] }
  | _ => none }
def blockBackRow : OpenClaim := { program := "ytjpgcfniahaelaa", sum := "530ea1ca451e8e39f3266bbf8470f190afc6be97def0efdc0a529177481a8646", func := "palimp/palimplaw5.BlockBack", spec := "blockBack", inPlace := ["internal/abi.NoEscape", "internal/bytealg.MakeNoZero"], unfollowed := true, recurses := true, apart := false }
def BlockBackSaid : Prop := blockBackRow.holds Try.pinned (OpenSpec.ofChange blockBackSpec)

/-- ITS FALSE NEIGHBOUR: 'it returns false'. Refute it at one input. -/
def blockBackWrong : ChangeSpec := { name := "blockBack", fn := fun _ => fun
  | [d1, d2, d3, d4, d5, d6] => { results := [.lit (.bool false)], args := [d1, d2, d3, d4, d5, d6] }
  | _ => none }
def BlockBackWrongFalsely : Prop := blockBackRow.holds Try.pinned (OpenSpec.ofChange blockBackWrong)

/- THE SECOND FORM. 'bulk': how many values and letters a reading holds, each counted each time it is reached (what is shared counts as often as it is met; a slice's spare places count too). A statement '..UptoSaid' is the law's where the arguments, and the package variables that the reading takes, are together of bulk at most 1048576: NARROWER than '..Said'. Prove '..Said' where nothing that the law and all that it calls make is longer than what came in: it says more and counts as full. Else prove '..UptoSaid'. A law counts once. -/
mutual
def uptoBulk {H : Type} : DataW H → Nat
  | .lit (.string bytes) => bytes.length + 1
  | .lit _ => 1
  | .nil => 1
  | .ptr d => uptoBulk d + 1
  | .slice elems spare => uptoBulkAll elems + uptoBulkAll spare + 1
  | .agg parts => uptoBulkAll parts + 1
  | .iface _ d => uptoBulk d + 1
  | .map entries => uptoBulkEntries entries + 1
  | .held _ => 1
def uptoBulkAll {H : Type} : List (DataW H) → Nat
  | [] => 0
  | d :: r => uptoBulk d + uptoBulkAll r
def uptoBulkEntries {H : Type} : List (Lit × DataW H) → Nat
  | [] => 0
  | x :: r => uptoBulkEntry x + uptoBulkEntries r
def uptoBulkEntry {H : Type} : Lit × DataW H → Nat
  | (.string bytes, d) => bytes.length + uptoBulk d + 1
  | (_, d) => uptoBulk d + 1
 end
def uptoSmall : (H : Type) → List (DataW H) → Bool := fun _ ds => decide (uptoBulkAll ds ≤ 1048576)
def OpenSpec.upto (s : _root_.Go.ChangeSpec) : _root_.Go.OpenSpec := { _root_.Go.OpenSpec.ofChange s with cond := some uptoSmall }

/-- 'palimplaw5.BlockAll', WHERE WHAT IT READS IS OF BULK AT MOST 1048576: true; the input reads as it did. -/
def blockAllUptoRow : OpenClaim := { program := "ytjpgcfniahaelaa", sum := "530ea1ca451e8e39f3266bbf8470f190afc6be97def0efdc0a529177481a8646", func := "palimp/palimplaw5.BlockAll", spec := "blockAll", inPlace := ["internal/abi.NoEscape", "internal/bytealg.MakeNoZero"], unfollowed := true, recurses := true, apart := false, narrowed := true }
def BlockAllUptoSaid : Prop := blockAllUptoRow.holds Try.pinned (OpenSpec.upto blockAllSpec)

/-- 'palimplaw5.BlockReads', WHERE WHAT IT READS IS OF BULK AT MOST 1048576: true; the input reads as it did. -/
def blockReadsUptoRow : OpenClaim := { program := "ytjpgcfniahaelaa", sum := "530ea1ca451e8e39f3266bbf8470f190afc6be97def0efdc0a529177481a8646", func := "palimp/palimplaw5.BlockReads", spec := "blockReads", inPlace := ["internal/abi.NoEscape", "internal/bytealg.MakeNoZero"], unfollowed := true, recurses := true, apart := false, narrowed := true }
def BlockReadsUptoSaid : Prop := blockReadsUptoRow.holds Try.pinned (OpenSpec.upto blockReadsSpec)

/-- 'palimplaw5.BlockForms', WHERE WHAT IT READS IS OF BULK AT MOST 1048576: true; the input reads as it did. -/
def blockFormsUptoRow : OpenClaim := { program := "ytjpgcfniahaelaa", sum := "530ea1ca451e8e39f3266bbf8470f190afc6be97def0efdc0a529177481a8646", func := "palimp/palimplaw5.BlockForms", spec := "blockForms", inPlace := ["internal/abi.NoEscape", "internal/bytealg.MakeNoZero"], unfollowed := true, recurses := true, apart := false, narrowed := true }
def BlockFormsUptoSaid : Prop := blockFormsUptoRow.holds Try.pinned (OpenSpec.upto blockFormsSpec)

/-- 'palimplaw5.BlockTurned', WHERE WHAT IT READS IS OF BULK AT MOST 1048576: true; the input reads as it did. -/
def blockTurnedUptoRow : OpenClaim := { program := "ytjpgcfniahaelaa", sum := "530ea1ca451e8e39f3266bbf8470f190afc6be97def0efdc0a529177481a8646", func := "palimp/palimplaw5.BlockTurned", spec := "blockTurned", inPlace := ["internal/abi.NoEscape", "internal/bytealg.MakeNoZero"], unfollowed := true, recurses := true, apart := false, narrowed := true }
def BlockTurnedUptoSaid : Prop := blockTurnedUptoRow.holds Try.pinned (OpenSpec.upto blockTurnedSpec)

/-- 'palimplaw5.BlockBack', WHERE WHAT IT READS IS OF BULK AT MOST 1048576: true; the input reads as it did. -/
def blockBackUptoRow : OpenClaim := { program := "ytjpgcfniahaelaa", sum := "530ea1ca451e8e39f3266bbf8470f190afc6be97def0efdc0a529177481a8646", func := "palimp/palimplaw5.BlockBack", spec := "blockBack", inPlace := ["internal/abi.NoEscape", "internal/bytealg.MakeNoZero"], unfollowed := true, recurses := true, apart := false, narrowed := true }
def BlockBackUptoSaid : Prop := blockBackUptoRow.holds Try.pinned (OpenSpec.upto blockBackSpec)

end Rows
end Go.Proofs.Ytjpgcfniahaelaa
