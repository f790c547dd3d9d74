/- Plain laws of the sum. -/
import Derived.Test.YtmafhfnalekgnaaSumS
namespace Go.Ahl
theorem word_zeros : ∀ k : Nat, word (List.replicate k 0) = 0
  | 0 => rfl
  | k + 1 => by rw [List.replicate_succ, word, word_zeros k]; rfl
theorem word_app_zeros (k : Nat) : ∀ l : List UInt8, word (l ++ List.replicate k 0) = word l
  | [] => by rw [List.nil_append, word_zeros]; rfl
  | b :: r => by rw [List.cons_append, word, word_app_zeros k r, word]
def sumFrom (s : S4) (l : List UInt8) : Nat → S4
  | 0 => s
  | j + 1 => step4 (sumFrom s l j) (word (chunk l j))
theorem sumK_eq (l : List UInt8) : ∀ j, sumK l j = sumFrom (0, 0, 0, 0) l j
  | 0 => rfl
  | j + 1 => by rw [sumK, sumFrom, sumK_eq l j]
theorem chunk_app_left (A L : List UInt8) (q j : Nat) (h : A.length = 4 * q) (hj : j < q) : chunk (A ++ L) j = chunk A j := by
  unfold chunk
  rw [List.drop_append_of_le_length (by omega), List.take_append_of_le_length (by simp; omega)]
theorem chunk_app_right (A L : List UInt8) (q j : Nat) (h : A.length = 4 * q) : chunk (A ++ L) (q + j) = chunk L j := by
  unfold chunk
  have : 4 * (q + j) = A.length + 4 * j := by omega
  rw [this, List.drop_append]
  have e1 : List.drop (A.length + 4 * j) A = [] := List.drop_eq_nil_of_le (by omega)
  rw [e1]
  simp
theorem sumK_app_left (A L : List UInt8) (q : Nat) (h : A.length = 4 * q) : ∀ j, j ≤ q → sumK (A ++ L) j = sumK A j
  | 0, _ => rfl
  | j + 1, hj => by rw [sumK, sumK, sumK_app_left A L q h j (by omega), chunk_app_left A L q j h (by omega)]
theorem sumK_app (A L : List UInt8) (q : Nat) (h : A.length = 4 * q) : ∀ j, sumK (A ++ L) (q + j) = sumFrom (sumK A q) L j
  | 0 => by rw [Nat.add_zero, sumK_app_left A L q h q (Nat.le_refl _)]; rfl
  | j + 1 => by rw [← Nat.add_assoc, sumK, sumFrom, sumK_app A L q h j, chunk_app_right A L q j h]
theorem nWords_app (A L : List UInt8) (q : Nat) (h : A.length = 4 * q) : nWords (A ++ L) = q + nWords L := by
  unfold nWords; rw [List.length_append, h]; omega
theorem sumOf_app (A L : List UInt8) (q : Nat) (h : A.length = 4 * q) : sumOf (A ++ L) = sumFrom (sumOf A) L (nWords L) := by
  unfold sumOf
  rw [nWords_app A L q h, sumK_app A L q h]
  congr 2
  unfold nWords; omega
theorem sumK_zeros (n : Nat) : ∀ j, sumK (List.replicate n 0) j = (0, 0, 0, 0)
  | 0 => rfl
  | j + 1 => by
    rw [sumK, sumK_zeros n j]
    have : word (chunk (List.replicate n 0) j) = 0 := by
      unfold chunk
      rw [List.drop_replicate, List.take_replicate, word_zeros]
    rw [this]; rfl
theorem sumOf_ahead (L : List UInt8) (q : Nat) : sumOf (List.replicate (4 * q) 0 ++ L) = sumOf L := by
  rw [sumOf_app _ L q (by simp)]
  unfold sumOf
  rw [sumK_zeros, ← sumK_eq]
theorem sumK_fill (L : List UInt8) (k : Nat) : ∀ j, sumK (L ++ List.replicate k 0) j = sumK L j
  | 0 => rfl
  | j + 1 => by
    rw [sumK, sumK, sumK_fill L k j]
    congr 1
    unfold chunk
    rw [List.drop_append, List.take_append, List.drop_replicate, List.take_replicate, word_app_zeros]
theorem sumOf_fill (L : List UInt8) (k : Nat) (h : (L.length + k + 3) / 4 = (L.length + 3) / 4) : sumOf (L ++ List.replicate k 0) = sumOf L := by
  unfold sumOf
  rw [sumK_fill]
  congr 1
  unfold nWords
  simpa using h
end Go.Ahl
namespace Go.Ahl
/-- Triangles and tetrahedra. -/
def tri : Nat → Int
  | 0 => 0
  | j + 1 => tri j + (j + 1)
def tet : Nat → Int
  | 0 => 0
  | j + 1 => tet j + tri (j + 1)
theorem sumFrom_parts (x : S4) (L : List UInt8) (h : 0 ≤ x.1 ∧ x.1 < M32 ∧ 0 ≤ x.2.1 ∧ x.2.1 < M32 ∧ 0 ≤ x.2.2.1 ∧ x.2.2.1 < M32 ∧ 0 ≤ x.2.2.2 ∧ x.2.2.2 < M32) : ∀ j : Nat,
    (sumFrom x L j).1 = (x.1 + (sumK L j).1) % M32 ∧ (sumFrom x L j).2.1 = (x.2.1 + j * x.1 + (sumK L j).2.1) % M32 ∧
    (sumFrom x L j).2.2.1 = (x.2.2.1 + j * x.2.1 + tri j * x.1 + (sumK L j).2.2.1) % M32 ∧
    (sumFrom x L j).2.2.2 = (x.2.2.2 + j * x.2.2.1 + tri j * x.2.1 + tet j * x.1 + (sumK L j).2.2.2) % M32
  | 0 => by
    simp only [sumFrom, sumK, tri, tet, M32] at *
    refine ⟨?_, ?_, ?_, ?_⟩ <;> omega
  | j + 1 => by
    obtain ⟨h1, h2, h3, h4⟩ := sumFrom_parts x L h j
    generalize hw : word (chunk L j) = w
    have e1 : ((j + 1 : Nat) : Int) * x.1 = j * x.1 + x.1 := by rw [Int.natCast_add, Int.add_mul]; simp
    have e2 : ((j + 1 : Nat) : Int) * x.2.1 = j * x.2.1 + x.2.1 := by rw [Int.natCast_add, Int.add_mul]; simp
    have e3 : ((j + 1 : Nat) : Int) * x.2.2.1 = j * x.2.2.1 + x.2.2.1 := by rw [Int.natCast_add, Int.add_mul]; simp
    have e4 : tri (j + 1) * x.1 = tri j * x.1 + (j * x.1 + x.1) := by simp only [tri, Int.add_mul]; simp
    have e5 : tri (j + 1) * x.2.1 = tri j * x.2.1 + (j * x.2.1 + x.2.1) := by simp only [tri, Int.add_mul]; simp
    have e6 : tet (j + 1) * x.1 = tet j * x.1 + (tri j * x.1 + (j * x.1 + x.1)) := by rw [← e4]; simp only [tet, Int.add_mul]
    rw [e1, e2, e3, e4, e5, e6]
    simp only [sumFrom, sumK, step4, hw, h1, h2, h3, h4, M32]
    refine ⟨?_, ?_, ?_, ?_⟩ <;> omega
end Go.Ahl
