/-
  The law of holes.
-/
import Derived.Test.YtiolemkcnkokaaaDoorLW1
import Derived.Test.YtiolemkcnkokaaaDoorR15B
import Derived.Test.YtiolemkcnkokaaaDoorR15WDataHoles
import Derived.KernelRfl
set_option maxRecDepth 20000
namespace Go.Proofs
open Go Go.Fhl Classical
set_option linter.unusedVariables false
set_option linter.unusedSimpArgs false
theorem getI_g' {b : Str} {i : Nat} (h : i < b.length) : getI b (i : Int) = some (gB b i) := by rw [getI_nat, gB_some h]
theorem zeros32 : (makeL 1 32 0 : Option (List UInt8)) = some (zeros 32) := rfl
def catP (b : Str) : Nat → Str
  | 0 => []
  | k + 1 => catP b k ++ partP b k
theorem catP_len (b : Str) : ∀ k, k ≤ 4 → (catP b k).length = 32 * k := by
  intro k
  induction k with
  | zero => intro _; rfl
  | succ k ih => intro h; rw [catP, List.length_append, ih (by omega), partP_length b (by omega)]; omega
theorem catP_g (b : Str) (hb : b.length ≤ 128) : ∀ k, k ≤ 4 → ∀ i, i < 32 * k → gB (catP b k) i = gB b i := by
  intro k
  induction k with
  | zero => intro _ i hi; omega
  | succ k ih =>
    intro h i hi
    rw [catP, gB_app, catP_len b k (by omega)]
    split
    · rename_i q; exact ih (by omega) i q
    · rename_i q
      rw [partP_g b k _ hb, if_pos (by omega)]
      congr 1; omega
def sumH (b : Str) : Nat → Nat
  | 0 => 0
  | k + 1 => sumH b k + hp b k
theorem sumH_le (b : Str) : ∀ k, sumH b k ≤ k := by
  intro k
  induction k with
  | zero => exact Nat.le_refl _
  | succ k ih => rw [sumH]; have := hp_le b k; omega
theorem holes_k2 (c : Int → Str → Int → Option Bool) (b : Str) (v : Str) (k n : Nat) (hk : k < 4) (hv : v.length ≤ 1000) (p : Str) (hp' : p.length = 32) : M_law15_DataHoles_k2 c b v (k : Int) (n : Int) p = c (n : Int) (v ++ p) ((k + 1 : Nat) : Int) := by
  have : ((p.length : Int) != 32) = false := by rw [hp']; rfl
  unfold M_law15_DataHoles_k2 M_law15_DataHoles_k1
  rw [this, cond_false, addS_eq (by omega), bind_some', w64_succ (by omega)]
theorem holes_l3 (c1 : Int → Str → Int → Option Bool) (c2 : Int → Option Bool) (b : Str) (hb : b.length ≤ 128) : ∀ j : Nat, j ≤ 4 → M_law15_DataHoles_l3 c1 c2 b (heldN b : Int) fuel (j : Int) = some true := by
  refine up_fuel (Q := fun f j => M_law15_DataHoles_l3 c1 c2 b (heldN b : Int) f (j : Int) = some true) 4 (by omega) ?_ ?_
  · intro f
    have e1 : partS b (-1) = [] := if_neg (by omega)
    have e2 : partS b 4 = [] := if_neg (by omega)
    rw [M_law15_DataHoles_l3, decide_eq_false (by omega), cond_false, dparts_eq, bind_some', dpart_eq, dpart_eq, e1, e2]
    simp [gd_true]
  · intro f j hj ih
    have : (partS b (j : Int) == zeros 32) = false := by
      rw [beq_eq_false_iff_ne]
      intro e
      unfold partS at e
      rw [if_pos ⟨by omega, by omega, hb⟩] at e
      split at e
      · have := congrArg List.length e; rw [zeros_length] at this; cases this
      · rename_i q; exact q e
    rw [M_law15_DataHoles_l3, decide_eq_true (by omega), cond_true, dpart_eq, bind_some', zeros32, bind_some', this, cond_false, w64_succ (by omega)]
    exact ih
theorem holes_l2 (c1 : Int → Str → Int → Option Bool) (b : Str) (hb : b.length ≤ 128) : ∀ j : Nat, j ≤ 128 → M_law15_DataHoles_l2 c1 b (heldN b : Int) (catP b 4) fuel (j : Int) = some true := by
  have hl : (catP b 4).length = 128 := catP_len b 4 (by omega)
  refine up_fuel (Q := fun f j => M_law15_DataHoles_l2 c1 b (heldN b : Int) (catP b 4) f (j : Int) = some true) 128 (by omega) ?_ ?_
  · intro f
    rw [M_law15_DataHoles_l2, hl, decide_eq_false (by omega), cond_false]
    exact holes_l3 c1 _ b hb 0 (Nat.zero_le _)
  · intro f j hj ih
    rw [M_law15_DataHoles_l2, decide_eq_true (by rw [hl]; omega), cond_true, getI_g' (b := catP b 4) (by omega), catP_g b hb 4 (by omega) j (by omega), w64_succ (by omega)]
    by_cases q : j < b.length
    · rw [decide_eq_true (show (j : Int) < (b.length : Int) by omega), decide_eq_false (show ¬ (j : Int) ≥ (b.length : Int) by omega), getI_g' q]
      simp only [bTT, gd_true, bind_some', bne_self_eq_false, Bool.and_false, bFF, bFT, Bool.and_self, gd_false, Bool.false_and, Bool.or_self, cond_false]
      exact ih
    · rw [decide_eq_false (show ¬ (j : Int) < (b.length : Int) by omega), decide_eq_true (show (j : Int) ≥ (b.length : Int) by omega), gB_out (by omega)]
      simp only [bFT, gd_false, bind_some', Bool.false_and, bFF, bTT, Bool.and_self, gd_true, bne_self_eq_false, Bool.and_false, Bool.or_self, cond_false]
      exact ih
theorem held_sum (b : Str) : sumH b 4 = heldN b := by
  show 0 + hp b 0 + hp b 1 + hp b 2 + hp b 3 = heldN b
  unfold heldN; omega
theorem holes_l1 (b : Str) (hb : b.length ≤ 128) : ∀ j : Nat, j ≤ 4 → M_law15_DataHoles_l1 b fuel (sumH b j : Int) (catP b j) (j : Int) = some true := by
  refine up_fuel (Q := fun f j => M_law15_DataHoles_l1 b f (sumH b j : Int) (catP b j) (j : Int) = some true) 4 (by omega) ?_ ?_
  · intro f
    rw [M_law15_DataHoles_l1, decide_eq_false (by omega), cond_false, held_sum]
    exact holes_l2 _ b hb 0 (Nat.zero_le _)
  · intro f j hj ih
    have hl := catP_len b j (by omega)
    have hs := sumH_le b j
    rw [catP, sumH] at ih
    rw [M_law15_DataHoles_l1, decide_eq_true (by omega), cond_true, dpart_eq, bind_some']
    have hne := partS_ne hb hj
    by_cases z : partS b (j : Int) = []
    · have e : partP b j = zeros 32 := Decidable.of_not_not fun q => hne.2 q z
      have h0 : hp b j = 0 := if_pos z
      have : (partS b (j : Int) == []) = true := by rw [z]; rfl
      rw [this, cond_true, zeros32, bind_some', holes_k2 _ b _ j _ hj (by omega) _ (zeros_length 32), ← e]
      rw [h0, Nat.add_zero] at ih
      exact ih
    · have e : partS b (j : Int) = partP b j := by
        have := hne.1 z
        unfold partS
        rw [if_pos ⟨by omega, by omega, hb⟩]
        exact if_neg this
      have h1 : hp b j = 1 := if_neg z
      have : (partS b (j : Int) == []) = false := by simp [z]
      rw [this, cond_false, w64_succ (by omega), e, holes_k2 _ b _ j _ hj (by omega) _ (partP_length b hj)]
      rw [h1] at ih
      exact ih
theorem law_DataHoles (t0 : Str) : M_law15_DataHoles t0 = some true := by
  unfold M_law15_DataHoles
  rw [begun15, bind_some', Bool.not_true, cond_false]
  by_cases hc : (t0.length : Int) > 128
  · rw [decide_eq_true hc]; rfl
  · rw [decide_eq_false hc, cond_false]
    exact holes_l1 t0 (by omega) 0 (Nat.zero_le _)
end Go.Proofs
