/-
  The sum of a text: what the program's and the document's loops come to. No program is in sight but its models.
-/
import Derived.Test.YtjpgcfniahaelaaR5M
import Derived.Test.YtjpgcfniahaelaaL0
import Derived.KernelRfl
set_option maxRecDepth 20000
namespace Go.Proofs
open Go Go.Fhl
set_option linter.unusedVariables false
set_option linter.unusedSimpArgs false

/-- Four bytes as a number, the least first. -/
def wordN (a b c d : UInt8) : Nat := a.toNat + 256 * (b.toNat + 256 * (c.toNat + 256 * d.toNat))
def word4 (a b c d : UInt8) : UInt32 := UInt32.ofNat (wordN a b c d)
def sstep (s : A4 UInt32) (w : UInt32) : A4 UInt32 :=
  ⟨s.x0 + w, s.x1 + (s.x0 + w), s.x2 + (s.x1 + (s.x0 + w)), s.x3 + (s.x2 + (s.x1 + (s.x0 + w)))⟩
def sumG : A4 UInt32 → Str → A4 UInt32
  | s, a :: b :: c :: d :: r => sumG (sstep s (word4 a b c d)) r
  | s, [a, b, c] => sstep s (word4 a b c 0)
  | s, [a, b] => sstep s (word4 a b 0 0)
  | s, [a] => sstep s (word4 a 0 0 0)
  | s, [] => s
def sumOf (b : Str) : A4 UInt32 := sumG ⟨0, 0, 0, 0⟩ b

theorem sum_l3 (c1 : Int → A4 UInt32 → Option (A4 UInt32)) (c2 : UInt32 → Int → Option (A4 UInt32)) (x1 : Str) (v2 : Int) (w : UInt32) (s : A4 UInt32) : M_sum_Of_l3 c1 c2 x1 v2 fuel w 0 s = c1 (w64 (v2 + 4)) (sstep s w) := by kernel_rfl
def orw (w : UInt32) (c : UInt8) (k : Nat) : UInt32 := w ||| UInt32.ofNat (c.toUInt32.toNat * 2 ^ (8 * k))
theorem sum_l2_4 (c1 : Int → A4 UInt32 → Option (A4 UInt32)) (x1 : Str) (v2 : Int) (s : A4 UInt32) (a b c d : UInt8) : M_sum_Of_l2 c1 x1 v2 s [a, b, c, d] fuel 0 0 = c1 (w64 (v2 + 4)) (sstep s (orw (orw (orw (orw 0 a 0) b 1) c 2) d 3)) := by kernel_rfl
theorem sum_l2_3 (c1 : Int → A4 UInt32 → Option (A4 UInt32)) (x1 : Str) (v2 : Int) (s : A4 UInt32) (a b c : UInt8) : M_sum_Of_l2 c1 x1 v2 s [a, b, c] fuel 0 0 = c1 (w64 (v2 + 4)) (sstep s (orw (orw (orw 0 a 0) b 1) c 2)) := by kernel_rfl
theorem sum_l2_2 (c1 : Int → A4 UInt32 → Option (A4 UInt32)) (x1 : Str) (v2 : Int) (s : A4 UInt32) (a b : UInt8) : M_sum_Of_l2 c1 x1 v2 s [a, b] fuel 0 0 = c1 (w64 (v2 + 4)) (sstep s (orw (orw 0 a 0) b 1)) := by kernel_rfl
theorem sum_l2_1 (c1 : Int → A4 UInt32 → Option (A4 UInt32)) (x1 : Str) (v2 : Int) (s : A4 UInt32) (a : UInt8) : M_sum_Of_l2 c1 x1 v2 s [a] fuel 0 0 = c1 (w64 (v2 + 4)) (sstep s (orw 0 a 0)) := by kernel_rfl
theorem orw_eq {n k : Nat} {c : UInt8} (hk : k < 4) (h : n < 2 ^ (8 * k)) : orw (UInt32.ofNat n) c k = UInt32.ofNat (n + c.toNat * 2 ^ (8 * k)) := by
  have hc := c.toNat_lt
  unfold orw
  apply UInt32.toNat_inj.1
  have hp : 2 ^ (8 * k) ≤ 2 ^ 24 := Nat.pow_le_pow_right (by decide) (by omega)
  have hm : c.toNat * 2 ^ (8 * k) < 2 ^ 32 := by
    have : c.toNat * 2 ^ (8 * k) ≤ 255 * 2 ^ 24 := Nat.mul_le_mul (by omega) hp
    omega
  rw [UInt32.toNat_or, UInt32.toNat_ofNat', UInt32.toNat_ofNat', UInt32.toNat_ofNat', UInt8.toNat_toUInt32, Nat.mod_eq_of_lt (by omega), Nat.mod_eq_of_lt hm]
  have h2 : n + c.toNat * 2 ^ (8 * k) = n ||| c.toNat * 2 ^ (8 * k) := by
    have := Nat.shiftLeft_add_eq_or_of_lt h c.toNat
    rw [Nat.shiftLeft_eq] at this
    rw [Nat.add_comm, this, Nat.or_comm]
  rw [← h2, Nat.mod_eq_of_lt]
  have e : 2 ^ (8 * k) * 256 ≤ 2 ^ 32 := by
    have : 2 ^ (8 * k) * 256 = 2 ^ (8 * k + 8) := by rw [Nat.pow_add]
    rw [this]; exact Nat.pow_le_pow_right (by decide) (by omega)
  have : c.toNat * 2 ^ (8 * k) ≤ 255 * 2 ^ (8 * k) := Nat.mul_le_mul_right _ (by omega)
  omega
theorem orw1 (a : UInt8) : orw 0 a 0 = UInt32.ofNat a.toNat := by
  have := orw_eq (n := 0) (k := 0) (c := a) (by omega) (by decide)
  simpa using this
theorem orw2 (a b : UInt8) : orw (orw 0 a 0) b 1 = UInt32.ofNat (a.toNat + 256 * b.toNat) := by
  have := a.toNat_lt
  rw [orw1, orw_eq (by omega) (by omega)]; congr 1; omega
theorem orw3 (a b c : UInt8) : orw (orw (orw 0 a 0) b 1) c 2 = UInt32.ofNat (a.toNat + 256 * (b.toNat + 256 * c.toNat)) := by
  have := a.toNat_lt
  have := b.toNat_lt
  rw [orw2, orw_eq (by omega) (by omega)]; congr 1; omega
theorem orw4 (a b c d : UInt8) : orw (orw (orw (orw 0 a 0) b 1) c 2) d 3 = word4 a b c d := by
  have := a.toNat_lt
  have := b.toNat_lt
  have := c.toNat_lt
  rw [orw3, orw_eq (by omega) (by omega)]; unfold word4 wordN; congr 1; omega
theorem word3 (a b c : UInt8) : word4 a b c 0 = UInt32.ofNat (a.toNat + 256 * (b.toNat + 256 * c.toNat)) := rfl
theorem word2 (a b : UInt8) : word4 a b 0 0 = UInt32.ofNat (a.toNat + 256 * b.toNat) := rfl
theorem word1 (a : UInt8) : word4 a 0 0 0 = UInt32.ofNat a.toNat := rfl

theorem drop_step {s : Str} {j : Nat} {l : Str} (h : s.drop j = l) (k : Nat) : s.drop (j + k) = l.drop k := by rw [← h, List.drop_drop]
theorem slice4 {s : Str} {j : Nat} (h : j < s.length) (hl : s.length < 4611686018427387904) : slL s (j : Int) (min (w64 ((j : Int) + 4)) (s.length : Int)) = some ((s.drop j).take 4) := by
  rw [w64_id (by omega) (by omega)]
  have : min ((j : Int) + 4) (s.length : Int) = ((min (j + 4) s.length : Nat) : Int) := by omega
  rw [this, slL_nat (by omega) (by omega)]
  congr 1
  rw [List.drop_take]
  by_cases q : j + 4 ≤ s.length
  · congr 1; omega
  · rw [List.take_of_length_le (by simp; omega), List.take_of_length_le (by simp; omega)]
theorem sum_l1 (x1 : Str) (hl : x1.length < 4611686018427387904) : ∀ (k n : Nat) (j : Nat) (s : A4 UInt32), x1.length ≤ j + 4 * k → j ≤ x1.length + 3 → k < n → M_sum_Of_l1 x1 n (j : Int) s = some (sumG s (x1.drop j)) := by
  intro k
  induction k with
  | zero =>
    intro n j s h1 h2 hn
    obtain ⟨n, rfl⟩ : ∃ x, n = x + 1 := ⟨n - 1, by omega⟩
    unfold M_sum_Of_l1
    have : ¬ (j : Int) < (x1.length : Int) := by omega
    rw [List.drop_eq_nil_of_le (by omega)]
    simp [this, sumG]
  | succ k ih =>
    intro n j s h1 h2 hn
    obtain ⟨n, rfl⟩ : ∃ x, n = x + 1 := ⟨n - 1, by omega⟩
    by_cases hj : j < x1.length
    · unfold M_sum_Of_l1
      have hi : (j : Int) < (x1.length : Int) := by omega
      rw [decide_eq_true hi, cond_true, slice4 hj hl, bind_some']
      have hnext : w64 ((j : Int) + 4) = ((j + 4 : Nat) : Int) := by rw [w64_id (by omega) (by omega)]; rfl
      rcases hd : x1.drop j with _ | ⟨a, _ | ⟨b, _ | ⟨c, _ | ⟨d, r⟩⟩⟩⟩
      · have := congrArg List.length hd; simp at this; omega
      · simp only [List.take]
        rw [sum_l2_1, orw1, hnext, ih n (j + 4) _ (by omega) (by have := congrArg List.length hd; simp at this; omega) (by omega), drop_step hd 4]
        rfl
      · simp only [List.take]
        rw [sum_l2_2, orw2, hnext, ih n (j + 4) _ (by omega) (by have := congrArg List.length hd; simp at this; omega) (by omega), drop_step hd 4]
        rfl
      · simp only [List.take]
        rw [sum_l2_3, orw3, hnext, ih n (j + 4) _ (by omega) (by have := congrArg List.length hd; simp at this; omega) (by omega), drop_step hd 4]
        rfl
      · simp only [List.take]
        rw [sum_l2_4, orw4, hnext, ih n (j + 4) _ (by omega) (by have := congrArg List.length hd; simp at this; omega) (by omega), drop_step hd 4]
        rfl
    · unfold M_sum_Of_l1
      have : ¬ (j : Int) < (x1.length : Int) := by omega
      rw [List.drop_eq_nil_of_le (by omega)]
      simp [this, sumG]
theorem join_empty : ∀ xs : List Str, joinS xs [] = xs.flatten := by
  intro xs
  cases xs with
  | nil => rfl
  | cons x r =>
    show Lib.join (x :: r) [] = _
    rw [Lib.join_cons]
    unfold Lib.joinTail
    have : (r.map (([] : List UInt8) ++ ·)) = r := by simp
    rw [this]; rfl
theorem sumOf_eq (l : List Str) (h1 : l.length ≤ 140737488355328) (h2 : l.flatten.length ≤ 140737488355328) : M_sum_Of l = some (sumOf l.flatten) := by
  unfold M_sum_Of M_strings_Join M_join
  rw [join_empty, if_pos ⟨h1, h2⟩, bind_some']
  have := sum_l1 l.flatten (by omega) l.flatten.length fuel 0 ⟨0, 0, 0, 0⟩ (by omega) (by omega) (by unfold fuel; omega)
  exact this
theorem sum1_eq (s : Str) (h : s.length ≤ 140737488355328) : M_sum_Of [s] = some (sumOf s) := by
  have := sumOf_eq [s] (by simp) (by simpa using h)
  simpa using this

/-! ## The document's -/
def byteAt (s : Str) (i : Nat) : UInt8 := (s[i]?).getD 0
theorem rsum_step (c1 : Str → Int → Option (A4 UInt32)) (c2 : Int → A4 UInt32 → Option (A4 UInt32)) (v1 : Str) (j k : Nat) (v7 : A4 UInt32) (hl : v1.length < 4611686018427387904) (hj : j < v1.length) (hk : k ≤ 3) (n : Nat) (w : UInt32) :
    M_ref1_Sum_l3 c1 c2 v1 (j : Int) v7 (n + 1) w (k : Int) = M_ref1_Sum_l3 c1 c2 v1 (j : Int) v7 n (w * 256 + (byteAt v1 (j + k)).toUInt32) ((k : Int) - 1) := by
  rw [M_ref1_Sum_l3]
  have h0 : (k : Int) ≥ 0 := by omega
  rw [decide_eq_true h0, cond_true]
  have e : w64 ((j : Int) + (k : Int)) = ((j + k : Nat) : Int) := by rw [w64_id (by omega) (by omega)]; rfl
  have e2 : w64 ((k : Int) - 1) = (k : Int) - 1 := w64_id (by omega) (by omega)
  rw [e]
  by_cases q : j + k < v1.length
  · rw [decide_eq_true (by omega), cond_true, getI_lt q, bind_some']
    unfold M_ref1_Sum_k1
    rw [e2]
    simp [byteAt, q]
  · rw [decide_eq_false (by omega), cond_false]
    unfold M_ref1_Sum_k1
    rw [e2]
    have : byteAt v1 (j + k) = 0 := by unfold byteAt; rw [List.getElem?_eq_none (by omega)]; rfl
    rw [this]
    congr 1
    show w * 256 = w * 256 + 0
    rw [UInt32.add_zero]
theorem rsum_l4 (c1 : Str → Int → Option (A4 UInt32)) (c2 : Int → A4 UInt32 → Option (A4 UInt32)) (c3 : UInt32 → Int → Option (A4 UInt32)) (v1 : Str) (v6 : Int) (w : UInt32) (s : A4 UInt32) : M_ref1_Sum_l4 c1 c2 c3 v1 v6 fuel w 0 s = c2 (w64 (v6 + 4)) (sstep s w) := by kernel_rfl
theorem rword (a b c d : UInt8) : (((((0 : UInt32) * 256 + d.toUInt32) * 256 + c.toUInt32) * 256 + b.toUInt32) * 256 + a.toUInt32) = word4 a b c d := by
  have := a.toNat_lt
  have := b.toNat_lt
  have := c.toNat_lt
  have := d.toNat_lt
  apply UInt32.toNat_inj.1
  unfold word4 wordN
  simp only [UInt32.toNat_add, UInt32.toNat_mul, UInt8.toNat_toUInt32, UInt32.toNat_ofNat', UInt32.toNat_ofNat]
  omega
theorem rsum_l3 (c1 : Str → Int → Option (A4 UInt32)) (c2 : Int → A4 UInt32 → Option (A4 UInt32)) (v1 : Str) (j : Nat) (v7 : A4 UInt32) (hl : v1.length < 4611686018427387904) (hj : j < v1.length) :
    M_ref1_Sum_l3 c1 c2 v1 (j : Int) v7 fuel 0 3 = c2 (w64 ((j : Int) + 4)) (sstep v7 (word4 (byteAt v1 j) (byteAt v1 (j + 1)) (byteAt v1 (j + 2)) (byteAt v1 (j + 3)))) := by
  have hf : fuel = 4611686018427387899 + 1 + 1 + 1 + 1 + 1 := rfl
  rw [hf]
  have a3 := rsum_step c1 c2 v1 j 3 v7 hl hj (by omega) (4611686018427387899 + 1 + 1 + 1 + 1) 0
  have a2 := fun w => rsum_step c1 c2 v1 j 2 v7 hl hj (by omega) (4611686018427387899 + 1 + 1 + 1) w
  have a1 := fun w => rsum_step c1 c2 v1 j 1 v7 hl hj (by omega) (4611686018427387899 + 1 + 1) w
  have a0 := fun w => rsum_step c1 c2 v1 j 0 v7 hl hj (by omega) (4611686018427387899 + 1) w
  have h3 : ((3 : Nat) : Int) - 1 = ((2 : Nat) : Int) := rfl
  have h2 : ((2 : Nat) : Int) - 1 = ((1 : Nat) : Int) := rfl
  have h1 : ((1 : Nat) : Int) - 1 = ((0 : Nat) : Int) := rfl
  have h0 : ((0 : Nat) : Int) - 1 = -1 := rfl
  have e3 : (3 : Int) = ((3 : Nat) : Int) := rfl
  rw [e3, a3, h3, a2, h2, a1, h1, a0, h0]
  rw [M_ref1_Sum_l3, decide_eq_false (by omega), cond_false, rsum_l4, rword]
  rfl
theorem rsum_l2 (c1 : Str → Int → Option (A4 UInt32)) (x1 : Str) (hl : x1.length < 4611686018427387904) : ∀ (k n : Nat) (j : Nat) (s : A4 UInt32), x1.length ≤ j + 4 * k → j ≤ x1.length + 3 → k < n → M_ref1_Sum_l2 c1 x1 n (j : Int) s = some (sumG s (x1.drop j)) := by
  intro k
  induction k with
  | zero =>
    intro n j s h1 h2 hn
    obtain ⟨n, rfl⟩ : ∃ x, n = x + 1 := ⟨n - 1, by omega⟩
    unfold M_ref1_Sum_l2
    have : ¬ (j : Int) < (x1.length : Int) := by omega
    rw [List.drop_eq_nil_of_le (by omega)]
    simp [this, sumG]
  | succ k ih =>
    intro n j s h1 h2 hn
    obtain ⟨n, rfl⟩ : ∃ x, n = x + 1 := ⟨n - 1, by omega⟩
    by_cases hj : j < x1.length
    · unfold M_ref1_Sum_l2
      have hi : (j : Int) < (x1.length : Int) := by omega
      rw [decide_eq_true hi, cond_true, rsum_l3 _ _ _ _ _ hl hj]
      have hnext : w64 ((j : Int) + 4) = ((j + 4 : Nat) : Int) := by rw [w64_id (by omega) (by omega)]; rfl
      have hb : ∀ k, byteAt x1 (j + k) = byteAt (x1.drop j) k := fun k => by unfold byteAt; rw [List.getElem?_drop]
      have hb0 : byteAt x1 j = byteAt (x1.drop j) 0 := hb 0
      rw [hnext, ih n (j + 4) _ (by omega) (by omega) (by omega), hb0, hb 1, hb 2, hb 3]
      rcases hd : x1.drop j with _ | ⟨a, _ | ⟨b, _ | ⟨c, _ | ⟨d, r⟩⟩⟩⟩
      · have := congrArg List.length hd; simp at this; omega
      · rw [drop_step hd 4]; rfl
      · rw [drop_step hd 4]; rfl
      · rw [drop_step hd 4]; rfl
      · rw [drop_step hd 4]; rfl
    · unfold M_ref1_Sum_l2
      have : ¬ (j : Int) < (x1.length : Int) := by omega
      rw [List.drop_eq_nil_of_le (by omega)]
      simp [this, sumG]
theorem rsum_l1_0 (s v : Str) (n : Nat) : M_ref1_Sum_l1 [s] (n + 1) v 0 = (addS v s).bind fun x5 => M_ref1_Sum_l1 [s] n x5 1 := by kernel_rfl
theorem rsum_l1_1 (s v : Str) (n : Nat) : M_ref1_Sum_l1 [s] (n + 1) v 1 = M_ref1_Sum_l2 (M_ref1_Sum_l1 [s] n) v fuel 0 ⟨0, 0, 0, 0⟩ := by
  rw [M_ref1_Sum_l1]
  have e : decide ((1 : Int) < (([s] : List Str).length : Int)) = false := rfl
  rw [e, cond_false]
theorem rsum_l1_all (s : Str) (h : s.length < 4611686018427387904) (n : Nat) : M_ref1_Sum_l1 [s] (n + 1 + 1) [] 0 = some (sumOf s) := by
  have h2 := rsum_l2 (M_ref1_Sum_l1 [s] n) s h s.length fuel 0 ⟨0, 0, 0, 0⟩ (by omega) (by omega) (by unfold fuel; omega)
  have e0 : ((0 : Nat) : Int) = 0 := rfl
  rw [e0, List.drop_zero] at h2
  rw [rsum_l1_0, addS_eq (by simp; omega), bind_some', List.nil_append, rsum_l1_1, h2, sumOf]
theorem fuel2 : fuel = 4611686018427387902 + 1 + 1 := rfl
theorem rsum1_eq (s : Str) (h : s.length < 4611686018427387904) : M_ref1_Of s = some (sumOf s) := by
  unfold M_ref1_Of M_ref1_Sum
  rw [fuel2, rsum_l1_all s h, bind_some']

/-! ## What the first number is -/
def nsum : Str → Nat → Nat
  | [], _ => 0
  | c :: r, i => c.toNat * 256 ^ (i % 4) + nsum r (i + 1)
theorem nsum_add4 (l : Str) : ∀ i, nsum l (i + 4) = nsum l i := by
  induction l with
  | nil => intro i; rfl
  | cons c l ih => intro i; rw [nsum, nsum, Nat.add_right_comm, ih (i + 1), Nat.add_mod_right]
theorem pw : 256 ^ (0 % 4) = 1 ∧ 256 ^ ((0 + 1) % 4) = 256 ∧ 256 ^ ((0 + 1 + 1) % 4) = 65536 ∧ 256 ^ ((0 + 1 + 1 + 1) % 4) = 16777216 := by decide
theorem ofNat_add32 (a b : Nat) : UInt32.ofNat (a + b) = UInt32.ofNat a + UInt32.ofNat b := UInt32.ofNat_add a b
theorem sumG_x0 : ∀ (s : A4 UInt32) (l : Str), (sumG s l).x0 = s.x0 + UInt32.ofNat (nsum l 0)
  | s, a :: b :: c :: d :: r => by
    rw [sumG, sumG_x0 (sstep s (word4 a b c d)) r]
    have e : nsum (a :: b :: c :: d :: r) 0 = wordN a b c d + nsum r 0 := by
      simp only [nsum, wordN, pw.1, pw.2.1, pw.2.2.1, pw.2.2.2, nsum_add4 r 0]; omega
    rw [e, ofNat_add32]
    show s.x0 + word4 a b c d + _ = _
    rw [UInt32.add_assoc]; rfl
  | s, [a, b, c] => by
    have e : nsum [a, b, c] 0 = wordN a b c 0 := by simp only [nsum, wordN, pw.1, pw.2.1, pw.2.2.1, pw.2.2.2]; have : (0 : UInt8).toNat = 0 := rfl; omega
    rw [e]; rfl
  | s, [a, b] => by
    have e : nsum [a, b] 0 = wordN a b 0 0 := by simp only [nsum, wordN, pw.1, pw.2.1, pw.2.2.1, pw.2.2.2]; have : (0 : UInt8).toNat = 0 := rfl; omega
    rw [e]; rfl
  | s, [a] => by
    have e : nsum [a] 0 = wordN a 0 0 0 := by simp only [nsum, wordN, pw.1, pw.2.1, pw.2.2.1, pw.2.2.2]; have : (0 : UInt8).toNat = 0 := rfl; omega
    rw [e]; rfl
  | s, [] => by
    show s.x0 = s.x0 + 0
    rw [UInt32.add_zero]
theorem sumOf_x0 (l : Str) : (sumOf l).x0 = UInt32.ofNat (nsum l 0) := by
  unfold sumOf; rw [sumG_x0, UInt32.zero_add]
theorem nsum_set (l : Str) : ∀ (i k : Nat) (y : UInt8) (h : k < l.length), nsum (l.set k y) i + l[k].toNat * 256 ^ ((i + k) % 4) = nsum l i + y.toNat * 256 ^ ((i + k) % 4) := by
  induction l with
  | nil => intro i k y h; simp at h
  | cons c l ih =>
    intro i k y h
    cases k with
    | zero => simp only [List.set_cons_zero, nsum, List.getElem_cons_zero, Nat.add_zero]; omega
    | succ k =>
      simp only [List.length_cons] at h
      have := ih (i + 1) k y (by omega)
      simp only [List.set_cons_succ, nsum, List.getElem_cons_succ]
      rw [show i + (k + 1) = i + 1 + k by omega]; omega
theorem nsum_append (l m : Str) : ∀ i, nsum (l ++ m) i = nsum l i + nsum m (i + l.length) := by
  induction l with
  | nil => intro i; simp [nsum]
  | cons c l ih => intro i; rw [List.cons_append, nsum, nsum, ih, List.length_cons, show i + 1 + l.length = i + (l.length + 1) by omega]; omega
theorem ofNat32_inj {a b : Nat} (h : UInt32.ofNat a = UInt32.ofNat b) : a % 4294967296 = b % 4294967296 := by
  have := congrArg UInt32.toNat h
  rwa [UInt32.toNat_ofNat', UInt32.toNat_ofNat'] at this
theorem pow4 (k : Nat) : 256 ^ (k % 4) = 1 ∨ 256 ^ (k % 4) = 256 ∨ 256 ^ (k % 4) = 65536 ∨ 256 ^ (k % 4) = 16777216 := by
  have h : k % 4 = 0 ∨ k % 4 = 1 ∨ k % 4 = 2 ∨ k % 4 = 3 := by omega
  rcases h with h | h | h | h <;> rw [h] <;> decide
/-- A text of which one byte is another one has another sum. -/
theorem sum_set {l : Str} {k : Nat} {y : UInt8} (h : k < l.length) (he : sumOf (l.set k y) = sumOf l) : l[k] = y := by
  have e := congrArg A4.x0 he
  rw [sumOf_x0, sumOf_x0] at e
  have e2 := ofNat32_inj e
  have e3 := nsum_set l 0 k y h
  rw [Nat.zero_add] at e3
  have hx := l[k].toNat_lt
  have hy := y.toNat_lt
  apply UInt8.toNat_inj.1
  generalize nsum (l.set k y) 0 = A at e2 e3
  generalize nsum l 0 = B at e2 e3
  generalize l[k].toNat = X at e3 hx ⊢
  generalize y.toNat = Y at e3 hy ⊢
  rcases pow4 k with q | q | q | q <;> rw [q] at e3 <;> omega
/-- A word that is not nought, behind whole words. -/
theorem sum_word {l : Str} {y : UInt8} (h : l.length % 4 = 0) (he : sumOf (l ++ [y, 0, 0, 0]) = sumOf l) : y = 0 := by
  have e := congrArg A4.x0 he
  rw [sumOf_x0, sumOf_x0] at e
  have e2 := ofNat32_inj e
  rw [nsum_append] at e2
  have hy := y.toNat_lt
  have e4 : nsum [y, 0, 0, 0] (0 + l.length) = y.toNat := by
    have z : (0 : UInt8).toNat = 0 := rfl
    rw [Nat.zero_add]
    simp only [nsum, h, z, Nat.zero_mul, Nat.add_zero, Nat.pow_zero, Nat.mul_one]
  rw [e4] at e2
  apply UInt8.toNat_inj.1
  show y.toNat = 0
  omega
end Go.Proofs
