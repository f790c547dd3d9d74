/-
  The law of groups that go round the ring.
-/
import Derived.Test.YtmhfodjiefednaaR7B
import Derived.Test.YtmhfodjiefednaaR7WLabelRing
import Derived.KernelRfl
set_option maxRecDepth 20000
namespace Go.Proofs
open Go Go.Fhl
set_option linter.unusedVariables false
set_option linter.unusedSimpArgs false
theorem ring_l3 {a b : UInt8} (h : rem8 a 3 = rem8 b 3) (c1 c2 : Int → G_api_Dev → Option Bool) (x3 : UInt8) (v x : Int) : ∀ n, M_law7_LabelRing_l3 c1 c2 a x3 v x n = M_law7_LabelRing_l3 c1 c2 b x3 v x n := by
  intro n
  induction n with
  | zero => rfl
  | succ n ih =>
    funext i d
    rw [M_law7_LabelRing_l3, M_law7_LabelRing_l3, h, ih]
    rfl
theorem ring_l2 {a b : UInt8} (h : rem8 a 3 = rem8 b 3) (c1 : Int → G_api_Dev → Option Bool) (x3 : UInt8) : ∀ n, M_law7_LabelRing_l2 c1 a x3 n = M_law7_LabelRing_l2 c1 b x3 n := by
  intro n
  induction n with
  | zero => rfl
  | succ n ih =>
    funext i d
    rw [M_law7_LabelRing_l2, M_law7_LabelRing_l2, h, ih]
    simp only [ring_l3 h]
theorem ring_l1 {a b : UInt8} (h : rem8 a 3 = rem8 b 3) (x3 : UInt8) : ∀ n, M_law7_LabelRing_l1 a x3 n = M_law7_LabelRing_l1 b x3 n := by
  intro n
  induction n with
  | zero => rfl
  | succ n ih =>
    funext i d
    rw [M_law7_LabelRing_l1, M_law7_LabelRing_l1, ih, ring_l2 h]
theorem ring_same {a b c e : UInt8} (h : rem8 a 3 = rem8 b 3) (h2 : rem8 c 15 = rem8 e 15) : M_law7_LabelRing c a = M_law7_LabelRing e b := by
  unfold M_law7_LabelRing
  simp only [h2, ring_l1 h]
theorem ring_0_0 : M_law7_LabelRing 0 0 = some true := by kernel_rfl
theorem ring_0_1 : M_law7_LabelRing 0 1 = some true := by kernel_rfl
theorem ring_0_2 : M_law7_LabelRing 0 2 = some true := by kernel_rfl
theorem ring_1_0 : M_law7_LabelRing 1 0 = some true := by kernel_rfl
theorem ring_1_1 : M_law7_LabelRing 1 1 = some true := by kernel_rfl
theorem ring_1_2 : M_law7_LabelRing 1 2 = some true := by kernel_rfl
theorem ring_2_0 : M_law7_LabelRing 2 0 = some true := by kernel_rfl
theorem ring_2_1 : M_law7_LabelRing 2 1 = some true := by kernel_rfl
theorem ring_2_2 : M_law7_LabelRing 2 2 = some true := by kernel_rfl
theorem ring_3_0 : M_law7_LabelRing 3 0 = some true := by kernel_rfl
theorem ring_3_1 : M_law7_LabelRing 3 1 = some true := by kernel_rfl
theorem ring_3_2 : M_law7_LabelRing 3 2 = some true := by kernel_rfl
theorem ring_4_0 : M_law7_LabelRing 4 0 = some true := by kernel_rfl
theorem ring_4_1 : M_law7_LabelRing 4 1 = some true := by kernel_rfl
theorem ring_4_2 : M_law7_LabelRing 4 2 = some true := by kernel_rfl
theorem ring_5_0 : M_law7_LabelRing 5 0 = some true := by kernel_rfl
theorem ring_5_1 : M_law7_LabelRing 5 1 = some true := by kernel_rfl
theorem ring_5_2 : M_law7_LabelRing 5 2 = some true := by kernel_rfl
theorem ring_6_0 : M_law7_LabelRing 6 0 = some true := by kernel_rfl
theorem ring_6_1 : M_law7_LabelRing 6 1 = some true := by kernel_rfl
theorem ring_6_2 : M_law7_LabelRing 6 2 = some true := by kernel_rfl
theorem ring_7_0 : M_law7_LabelRing 7 0 = some true := by kernel_rfl
theorem ring_7_1 : M_law7_LabelRing 7 1 = some true := by kernel_rfl
theorem ring_7_2 : M_law7_LabelRing 7 2 = some true := by kernel_rfl
theorem ring_8_0 : M_law7_LabelRing 8 0 = some true := by kernel_rfl
theorem ring_8_1 : M_law7_LabelRing 8 1 = some true := by kernel_rfl
theorem ring_8_2 : M_law7_LabelRing 8 2 = some true := by kernel_rfl
theorem ring_9_0 : M_law7_LabelRing 9 0 = some true := by kernel_rfl
theorem ring_9_1 : M_law7_LabelRing 9 1 = some true := by kernel_rfl
theorem ring_9_2 : M_law7_LabelRing 9 2 = some true := by kernel_rfl
theorem ring_10_0 : M_law7_LabelRing 10 0 = some true := by kernel_rfl
theorem ring_10_1 : M_law7_LabelRing 10 1 = some true := by kernel_rfl
theorem ring_10_2 : M_law7_LabelRing 10 2 = some true := by kernel_rfl
theorem ring_11_0 : M_law7_LabelRing 11 0 = some true := by kernel_rfl
theorem ring_11_1 : M_law7_LabelRing 11 1 = some true := by kernel_rfl
theorem ring_11_2 : M_law7_LabelRing 11 2 = some true := by kernel_rfl
theorem ring_12_0 : M_law7_LabelRing 12 0 = some true := by kernel_rfl
theorem ring_12_1 : M_law7_LabelRing 12 1 = some true := by kernel_rfl
theorem ring_12_2 : M_law7_LabelRing 12 2 = some true := by kernel_rfl
theorem ring_13_0 : M_law7_LabelRing 13 0 = some true := by kernel_rfl
theorem ring_13_1 : M_law7_LabelRing 13 1 = some true := by kernel_rfl
theorem ring_13_2 : M_law7_LabelRing 13 2 = some true := by kernel_rfl
theorem ring_14_0 : M_law7_LabelRing 14 0 = some true := by kernel_rfl
theorem ring_14_1 : M_law7_LabelRing 14 1 = some true := by kernel_rfl
theorem ring_14_2 : M_law7_LabelRing 14 2 = some true := by kernel_rfl
theorem lt15 (y : UInt8) (h : y.toNat < 15) : y = 0 ∨ y = 1 ∨ y = 2 ∨ y = 3 ∨ y = 4 ∨ y = 5 ∨ y = 6 ∨ y = 7 ∨ y = 8 ∨ y = 9 ∨ y = 10 ∨ y = 11 ∨ y = 12 ∨ y = 13 ∨ y = 14 := by
  have k : ∀ m, m < 15 → UInt8.ofNat m = 0 ∨ UInt8.ofNat m = 1 ∨ UInt8.ofNat m = 2 ∨ UInt8.ofNat m = 3 ∨ UInt8.ofNat m = 4 ∨ UInt8.ofNat m = 5 ∨ UInt8.ofNat m = 6 ∨ UInt8.ofNat m = 7 ∨ UInt8.ofNat m = 8 ∨ UInt8.ofNat m = 9 ∨ UInt8.ofNat m = 10 ∨ UInt8.ofNat m = 11 ∨ UInt8.ofNat m = 12 ∨ UInt8.ofNat m = 13 ∨ UInt8.ofNat m = 14 := by decide
  simpa using k y.toNat h
theorem lt3 (y : UInt8) (h : y.toNat < 3) : y = 0 ∨ y = 1 ∨ y = 2 := by
  have k : ∀ m, m < 3 → UInt8.ofNat m = 0 ∨ UInt8.ofNat m = 1 ∨ UInt8.ofNat m = 2 := by decide
  simpa using k y.toNat h
theorem law_LabelRing (t0 t1 : UInt8) : M_law7_LabelRing t0 t1 = some true := by
  have e0 : rem8 t0 15 = rem8 (t0 % 15) 15 := by
    unfold rem8
    congr 2
    apply UInt8.toNat_inj.1
    simp
  have e1 : rem8 t1 3 = rem8 (t1 % 3) 3 := by
    unfold rem8
    congr 2
    apply UInt8.toNat_inj.1
    simp
  have b0 := lt15 (t0 % 15) (by simp; omega)
  have b1 := lt3 (t1 % 3) (by simp; omega)
  rw [ring_same e1 e0]
  generalize t0 % 15 = x at b0 ⊢
  generalize t1 % 3 = y at b1 ⊢
  rcases b0 with rfl | rfl | rfl | rfl | rfl | rfl | rfl | rfl | rfl | rfl | rfl | rfl | rfl | rfl | rfl <;> rcases b1 with rfl | rfl | rfl
  · exact ring_0_0
  · exact ring_0_1
  · exact ring_0_2
  · exact ring_1_0
  · exact ring_1_1
  · exact ring_1_2
  · exact ring_2_0
  · exact ring_2_1
  · exact ring_2_2
  · exact ring_3_0
  · exact ring_3_1
  · exact ring_3_2
  · exact ring_4_0
  · exact ring_4_1
  · exact ring_4_2
  · exact ring_5_0
  · exact ring_5_1
  · exact ring_5_2
  · exact ring_6_0
  · exact ring_6_1
  · exact ring_6_2
  · exact ring_7_0
  · exact ring_7_1
  · exact ring_7_2
  · exact ring_8_0
  · exact ring_8_1
  · exact ring_8_2
  · exact ring_9_0
  · exact ring_9_1
  · exact ring_9_2
  · exact ring_10_0
  · exact ring_10_1
  · exact ring_10_2
  · exact ring_11_0
  · exact ring_11_1
  · exact ring_11_2
  · exact ring_12_0
  · exact ring_12_1
  · exact ring_12_2
  · exact ring_13_0
  · exact ring_13_1
  · exact ring_13_2
  · exact ring_14_0
  · exact ring_14_1
  · exact ring_14_2
end Go.Proofs
