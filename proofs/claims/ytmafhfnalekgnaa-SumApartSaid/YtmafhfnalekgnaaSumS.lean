/- What the sum of bytes is: plain numbers. -/
import GoSem.Core.Value
namespace Go.Ahl
abbrev S4 := Int × Int × Int × Int
def M32 : Int := 4294967296
def word : List UInt8 → Int
  | [] => 0
  | b :: r => (b.toNat : Int) + 256 * word r
def step4 (s : S4) (w : Int) : S4 :=
  let a := (s.1 + w) % M32
  let b := (s.2.1 + a) % M32
  let c := (s.2.2.1 + b) % M32
  let d := (s.2.2.2 + c) % M32
  (a, b, c, d)
def chunk (l : List UInt8) (j : Nat) : List UInt8 := (l.drop (4 * j)).take 4
def sumK (l : List UInt8) : Nat → S4
  | 0 => (0, 0, 0, 0)
  | j + 1 => step4 (sumK l j) (word (chunk l j))
def nWords (l : List UInt8) : Nat := (l.length + 3) / 4
def sumOf (l : List UInt8) : S4 := sumK l (nWords l)

theorem word_nonneg : ∀ l : List UInt8, 0 ≤ word l
  | [] => by simp [word]
  | b :: r => by have := word_nonneg r; simp [word]; omega
theorem word_lt : ∀ l : List UInt8, word l < 256 ^ l.length
  | [] => by simp [word]
  | b :: r => by
    have := word_lt r
    have hb : (b.toNat : Int) < 256 := by have := b.toNat_lt; omega
    simp only [word, List.length_cons, Int.pow_succ]
    omega
theorem word_snoc : ∀ (l : List UInt8) (c : UInt8), word (l ++ [c]) = word l + (c.toNat : Int) * 256 ^ l.length
  | [], c => by simp [word]
  | b :: r, c => by
    simp only [List.cons_append, word, word_snoc r c, List.length_cons, Int.pow_succ]
    rw [Int.mul_add]
    have : 256 * ((c.toNat : Int) * 256 ^ r.length) = (c.toNat : Int) * (256 ^ r.length * 256) := by
      rw [Int.mul_comm, Int.mul_assoc]
    omega
theorem word_take (l : List UInt8) (k : Nat) (h : k < l.length) : word (l.take (k + 1)) = word (l.take k) + (l[k].toNat : Int) * 256 ^ k := by
  rw [List.take_succ_eq_append_getElem h, word_snoc]
  have : (l.take k).length = k := by simp; omega
  rw [this]
theorem word_take_lt : ∀ (l : List UInt8) (k : Nat), word (l.take k) < 256 ^ k
  | l, 0 => by simp [word]
  | [], k + 1 => by
    have : (0 : Int) < 256 ^ (k + 1) := Int.pow_pos (by omega)
    simpa [word] using this
  | b :: r, k + 1 => by
    have := word_take_lt r k
    have hb : (b.toNat : Int) < 256 := by have := b.toNat_lt; omega
    simp only [List.take_succ_cons, word, Int.pow_succ]
    omega

theorem or_shift (n m i : Nat) (hn : n < 2 ^ i) (hb : 2 ^ i * m + n < 4294967296) : (BitVec.ofInt 32 (n : Int) ||| BitVec.ofInt 32 ((2 ^ i * m : Nat) : Int)).toNat = n + 2 ^ i * m := by
  rw [BitVec.toNat_or, BitVec.toNat_ofInt, BitVec.toNat_ofInt]
  have e3 : ((n : Int) % ((2 ^ 32 : Nat) : Int)).toNat = n := by omega
  have e4 : (((2 ^ i * m : Nat) : Int) % ((2 ^ 32 : Nat) : Int)).toNat = 2 ^ i * m := by omega
  rw [e3, e4, Nat.or_comm, ← Nat.two_pow_add_eq_or_of_lt hn]
  omega

theorem or_word (w : Int) (c : UInt8) (k : Nat) (h0 : 0 ≤ w) (h1 : w < 256 ^ k) (hk : k < 4) :
    ((BitVec.ofInt 32 w ||| BitVec.ofInt 32 (((c.toNat : Int) * 2 ^ (8 * k)) % 4294967296)).toNat : Int) % 4294967296 = w + (c.toNat : Int) * 256 ^ k := by
  obtain ⟨n, rfl⟩ := Int.eq_ofNat_of_zero_le h0
  have hc : c.toNat < 256 := c.toNat_lt
  generalize c.toNat = m at *
  have hk4 : k = 0 ∨ k = 1 ∨ k = 2 ∨ k = 3 := by omega
  rcases hk4 with rfl | rfl | rfl | rfl
  · have := or_shift n m 0 (by omega) (by omega)
    have e : ((m : Int) * 2 ^ (8 * 0)) % 4294967296 = ((2 ^ 0 * m : Nat) : Int) := by omega
    rw [e, this]; omega
  · have := or_shift n m 8 (by omega) (by omega)
    have e : ((m : Int) * 2 ^ (8 * 1)) % 4294967296 = ((2 ^ 8 * m : Nat) : Int) := by omega
    rw [e, this]; omega
  · have := or_shift n m 16 (by omega) (by omega)
    have e : ((m : Int) * 2 ^ (8 * 2)) % 4294967296 = ((2 ^ 16 * m : Nat) : Int) := by omega
    rw [e, this]; omega
  · have := or_shift n m 24 (by omega) (by omega)
    have e : ((m : Int) * 2 ^ (8 * 3)) % 4294967296 = ((2 ^ 24 * m : Nat) : Int) := by omega
    rw [e, this]; omega

theorem step4_range (s : S4) (w : Int) : 0 ≤ (step4 s w).1 ∧ (step4 s w).1 < M32 ∧ 0 ≤ (step4 s w).2.1 ∧ (step4 s w).2.1 < M32 ∧ 0 ≤ (step4 s w).2.2.1 ∧ (step4 s w).2.2.1 < M32 ∧ 0 ≤ (step4 s w).2.2.2 ∧ (step4 s w).2.2.2 < M32 := by
  unfold step4 M32
  simp only
  omega
end Go.Ahl
