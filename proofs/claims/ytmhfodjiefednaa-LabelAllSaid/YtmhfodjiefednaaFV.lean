/-
  A logic over the model, part fourteen: from a contract to what the shell of a proof asks for.
-/
import Derived.Test.YtmhfodjiefednaaFHc1
import Derived.Below
import Derived.OpenShut
namespace Go.Fhl
open Go.RowKit
set_option linter.unusedVariables false
set_option linter.unusedSimpArgs false

/-- Whatever plain cell is there never changes. -/
def fzW (w : World) (B k : Nat) : Option Value :=
  match w.heap[B]? with
  | some (.cells C _ _) => match C[k]? with
    | some v => if plain1 v = true then some v else none
    | none => none
  | _ => none
def hmW (w : World) : GM := ⟨fun _ => none, fzW w⟩
theorem fzW_of {w : World} {B k : Nat} {C : Array Value} {e : TypeId} {fz : Nat × Nat} {v : Value} (h : w.heap[B]? = some (.cells C e fz)) (hv : C[k]? = some v) (hp : plain1 v = true) : fzW w B k = some v := by
  unfold fzW; rw [h]; simp only [hv, hp, if_true]
theorem fzW_some {w : World} {B k : Nat} {v : Value} (h : fzW w B k = some v) : plain1 v = true ∧ ∃ C e fz, w.heap[B]? = some (.cells C e fz) ∧ C[k]? = some v := by
  unfold fzW at h
  split at h
  · split at h
    · split at h
      · cases h; exact ⟨‹_›, _, _, _, ‹_›, ‹_›⟩
      · cases h
    · cases h
  · cases h
theorem hrelW (w : World) : HRel (hmW w) w ⟨fun B => B < w.heap.size, fzW w⟩ AH.empty w where
  os := rfl
  tape := rfl
  output := rfl
  size := Nat.le_refl _
  prot := fun B hB => ⟨hB, rfl⟩
  protz := fun B hB k => rfl
  fresh := fun _ _ => rfl
  frz := fun B k v h => by
    obtain ⟨h1, C, e, fz, h2, h3⟩ := fzW_some h
    exact ⟨plain1_pure1 h1, C, e, fz, v, h2, h3, SR.of_plain h1⟩
  blk := fun n b h => by cases h
  inj := fun n b n' b' i i' h => by cases h
theorem ffn_below {P : Program} {f : FuncId} {args : List Value} {w : World} {cargs : Array Value} (h : FFn P f args (.bool true)) (ha : L2 (VR (hmW w) []) args cargs.toList) :
    Calls P f cargs w fun e w' => e = .returned (.bool true) ∧ Below w.heap.size w w' := by
  refine (h (hmW w) w _ w cargs (hrelW w) ha).mono fun e w' ⟨hm', v, cv, H', h1, h2, h3, h4, h5, h6⟩ => ?_
  subst h6
  have : cv = .bool true := h5.sr rfl
  subst this
  exact ⟨h1, h4.os, h4.tape, h4.output, h4.size, fun k hk => (h4.prot k hk).2⟩
def toB (zs : List Int) : List UInt8 := zs.map fun z => UInt8.ofNat z.toNat
theorem wf_u8 {n : Int} (h : (Lit.int .u8 n).wf = true) : 0 ≤ n ∧ n < 256 := by
  simp [Lit.wf, IntKind.min, IntKind.max, IntKind.signed, IntKind.bits] at h
  omega
def u8 (z : Int) : UInt8 := UInt8.ofNat z.toNat
def u16 (z : Int) : UInt16 := UInt16.ofNat z.toNat
def u32 (z : Int) : UInt32 := UInt32.ofNat z.toNat
theorem val_u8 {z : Int} (h : (Lit.int .u8 z).wf = true) : Value.int .u8 z = U8 (u8 z) := by
  have := wf_u8 h
  have e : (u8 z).toNat = z.toNat := by unfold u8; rw [UInt8.toNat_ofNat']; omega
  show _ = Value.int .u8 ((u8 z).toNat : Int)
  rw [e]; congr 1; omega
def strL (s : ByteArray) : Str := s.data.toList
end Go.Fhl
