/-
  Texts of noughts.
-/
import Derived.Test.YtjpgcfniahaelaaL0
import Derived.Test.YtjpgcfniahaelaaR5M
set_option maxRecDepth 20000
namespace Go.Proofs
open Go Go.Fhl
set_option linter.unusedVariables false
theorem getI_pos {α : Type} {xs : List α} {i : Int} (h0 : 0 ≤ i) (h : i.toNat < xs.length) : getI xs i = some xs[i.toNat] := by
  obtain ⟨k, rfl⟩ : ∃ k : Nat, i = k := ⟨i.toNat, by omega⟩
  exact getI_lt h
theorem setI_pos {α : Type} {xs : List α} {i : Int} {y : α} (h0 : 0 ≤ i) (h : i.toNat < xs.length) : setI xs i y = some (xs.set i.toNat y) := by
  obtain ⟨k, rfl⟩ : ∃ k : Nat, i = k := ⟨i.toNat, by omega⟩
  exact setI_nat h
def zeros (n : Nat) : Str := List.replicate n 0
theorem zeros_length (n : Nat) : (zeros n).length = n := List.length_replicate
theorem repeat_zero (n : Nat) : Lib.repeatL [0] n = zeros n := by
  induction n with
  | zero => rfl
  | succ n ih => rw [Lib.repeatL, ih]; rfl
theorem rep_eq {n : Nat} (h : n ≤ 1000000) : M_strings_Repeat [0] (n : Int) = some (zeros n) := by
  unfold M_strings_Repeat M_repeat
  rw [if_pos ⟨by omega, by omega, by simp; omega⟩, Int.toNat_natCast, repeat_zero]
theorem noughts_eq {n : Nat} (h : n ≤ 1000000) : M_ref1_noughts (n : Int) = some (zeros n) := by
  unfold M_ref1_noughts
  have : max (n : Int) 0 = (n : Int) := by omega
  rw [this, makeL_nat (by omega) (by omega)]
  rfl
end Go.Proofs
