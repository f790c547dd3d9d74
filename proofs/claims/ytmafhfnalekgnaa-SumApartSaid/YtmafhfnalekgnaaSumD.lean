/- Plain laws of the sum: what a changed word changes. -/
import Derived.Test.YtmafhfnalekgnaaSumL
namespace Go.Ahl
def D0 (d : Nat → Int) : Nat → Int
  | 0 => 0
  | j + 1 => D0 d j + d j
def D1 (d : Nat → Int) : Nat → Int
  | 0 => 0
  | j + 1 => D1 d j + D0 d (j + 1)
def D2 (d : Nat → Int) : Nat → Int
  | 0 => 0
  | j + 1 => D2 d j + D1 d (j + 1)
theorem sumK_diff (l l' : List UInt8) (d : Nat → Int) (q : Nat) (h : ∀ j, j < q → word (chunk l' j) % M32 = (word (chunk l j) + d j) % M32) : ∀ j, j ≤ q →
    (sumK l' j).1 = ((sumK l j).1 + D0 d j) % M32 ∧ (sumK l' j).2.1 = ((sumK l j).2.1 + D1 d j) % M32 ∧ (sumK l' j).2.2.1 = ((sumK l j).2.2.1 + D2 d j) % M32
  | 0, _ => by simp [sumK, D0, D1, D2, M32]
  | j + 1, hj => by
    obtain ⟨h1, h2, h3⟩ := sumK_diff l l' d q h j (by omega)
    have hw := h j (by omega)
    generalize word (chunk l' j) = w' at hw
    generalize hww : word (chunk l j) = w at hw
    have hw'' : word (chunk l' j) = word (chunk l' j) := rfl
    simp only [sumK, step4, h1, h2, h3, hww, D0, D1, D2, M32] at hw ⊢
    have hd := h j (by omega)
    rw [hww] at hd
    unfold M32 at hd
    refine ⟨?_, ?_, ?_⟩ <;> omega
def only (k : Nat) (x : Int) : Nat → Int := fun j => if j = k then x else 0
theorem D0_only (k : Nat) (x : Int) : ∀ j, D0 (only k x) j = if k < j then x else 0
  | 0 => by simp [D0]
  | j + 1 => by
    rw [D0, D0_only k x j]
    unfold only
    by_cases h1 : k < j
    · rw [if_pos h1, if_neg (by omega), if_pos (by omega)]; omega
    · by_cases h2 : j = k
      · rw [if_neg h1, if_pos h2, if_pos (by omega)]; omega
      · rw [if_neg h1, if_neg h2, if_neg (by omega)]; omega
theorem D1_only (k : Nat) (x : Int) : ∀ j, D1 (only k x) j = ((j - k : Nat) : Int) * x
  | 0 => by simp [D1]
  | j + 1 => by
    rw [D1, D1_only k x j, D0_only]
    by_cases h1 : k < j + 1
    · rw [if_pos h1]
      have : j + 1 - k = (j - k) + 1 := by omega
      rw [this, Int.natCast_add, Int.add_mul]; simp
    · rw [if_neg h1]
      have e1 : j + 1 - k = 0 := by omega
      have e2 : j - k = 0 := by omega
      rw [e1, e2]; simp
theorem D2_only (k : Nat) (x : Int) : ∀ j, D2 (only k x) j = tri (j - k) * x
  | 0 => by simp [D2, tri]
  | j + 1 => by
    rw [D2, D2_only k x j, D1_only]
    by_cases h1 : k < j + 1
    · have : j + 1 - k = (j - k) + 1 := by omega
      rw [this, tri, Int.add_mul, Int.natCast_add]
      simp
    · have e1 : j + 1 - k = 0 := by omega
      have e2 : j - k = 0 := by omega
      rw [e1, e2]; simp
theorem D0_add (d e : Nat → Int) : ∀ j, D0 (fun i => d i + e i) j = D0 d j + D0 e j
  | 0 => rfl
  | j + 1 => by rw [D0, D0, D0, D0_add d e j]; omega
theorem D1_add (d e : Nat → Int) : ∀ j, D1 (fun i => d i + e i) j = D1 d j + D1 e j
  | 0 => rfl
  | j + 1 => by rw [D1, D1, D1, D1_add d e j, D0_add]; omega
end Go.Ahl
namespace Go.Ahl
theorem chunk4 (M : List UInt8) (j : Nat) (h : 4 * j + 4 ≤ M.length) : chunk M j = [M[4 * j]'(by omega), M[4 * j + 1]'(by omega), M[4 * j + 2]'(by omega), M[4 * j + 3]'(by omega)] := by
  have e : M.drop (4 * j) = M[4 * j]'(by omega) :: M[4 * j + 1]'(by omega) :: M[4 * j + 2]'(by omega) :: M[4 * j + 3]'(by omega) :: M.drop (4 * j + 1 + 1 + 1 + 1) := by
    rw [List.drop_eq_getElem_cons (i := 4 * j) (by omega), List.drop_eq_getElem_cons (i := 4 * j + 1) (by omega), List.drop_eq_getElem_cons (i := 4 * j + 1 + 1) (by omega), List.drop_eq_getElem_cons (i := 4 * j + 1 + 1 + 1) (by omega)]
  unfold chunk
  rw [e]
  rfl
theorem word4 (M : List UInt8) (j : Nat) (h : 4 * j + 4 ≤ M.length) : word (chunk M j) = (M[4 * j]'(by omega)).toNat + (M[4 * j + 1]'(by omega)).toNat * 256 + (M[4 * j + 2]'(by omega)).toNat * 65536 + (M[4 * j + 3]'(by omega)).toNat * 16777216 := by
  rw [chunk4 M j h]
  simp only [word]
  omega
/-- Four bytes put anew. -/
def put4 (B : List UInt8) (k : Nat) (v0 v1 v2 v3 : UInt8) : List UInt8 := (((B.set (4 * k) v0).set (4 * k + 1) v1).set (4 * k + 2) v2).set (4 * k + 3) v3
theorem put4_length (B : List UInt8) (k : Nat) (v0 v1 v2 v3 : UInt8) : (put4 B k v0 v1 v2 v3).length = B.length := by simp [put4]
theorem put4_other (B : List UInt8) (k j : Nat) (v0 v1 v2 v3 : UInt8) (h : j ≠ k) : chunk (put4 B k v0 v1 v2 v3) j = chunk B j := by
  unfold chunk
  refine List.ext_getElem? fun i => ?_
  rw [List.getElem?_take, List.getElem?_take, List.getElem?_drop, List.getElem?_drop]
  by_cases hi : i < 4
  · rw [if_pos hi, if_pos hi]
    unfold put4
    rw [List.getElem?_set_ne (by omega), List.getElem?_set_ne (by omega), List.getElem?_set_ne (by omega), List.getElem?_set_ne (by omega)]
  · rw [if_neg hi, if_neg hi]
theorem put4_word (B : List UInt8) (k : Nat) (v0 v1 v2 v3 : UInt8) (h : 4 * k + 4 ≤ B.length) : word (chunk (put4 B k v0 v1 v2 v3) k) = v0.toNat + v1.toNat * 256 + v2.toNat * 65536 + v3.toNat * 16777216 := by
  rw [word4 _ _ (by rw [put4_length]; exact h)]
  simp [put4]
end Go.Ahl
