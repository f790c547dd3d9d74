/-
  The law of cuts.
-/
import Derived.Test.YtiolemkcnkokaaaDoorLW1
import Derived.Test.YtiolemkcnkokaaaDoorR1511
import Derived.Test.YtiolemkcnkokaaaDoorR158
import Derived.Test.YtiolemkcnkokaaaDoorR15B
import Derived.Test.YtiolemkcnkokaaaDoorR15WDataCuts
import Derived.KernelRfl
set_option maxRecDepth 20000
namespace Go.Proofs
open Go Go.Fhl Classical
set_option linter.unusedVariables false
set_option linter.unusedSimpArgs false
theorem getI_g {b : Str} {i : Nat} (h : i < b.length) : getI b (i : Int) = some (gB b i) := by rw [getI_nat, gB_some h]
theorem hp_zero {b : Str} (hb : b.length ≤ 128) {k : Nat} (hk : k < 4) : hp b k = 0 ↔ ∀ i, i < 32 → gB b (32 * k + i) = 0 := by
  rw [← partP_zero hb hk]
  have := partS_ne hb hk
  unfold hp
  constructor
  · intro q
    split at q
    · rename_i e
      exact Decidable.of_not_not fun z => this.2 z e
    · cases q
  · intro q
    rw [if_pos]
    exact Decidable.of_not_not fun z => this.1 z q
theorem hp_mono {x y : Str} (hx : x.length ≤ 128) (hy : y.length ≤ 128) (h : ∀ i, gB y i = 0 → gB x i = 0) {k : Nat} (hk : k < 4) : hp x k ≤ hp y k := by
  have a := hp_le x k
  have b := hp_le y k
  by_cases e : hp y k = 0
  · have : hp x k = 0 := (hp_zero hx hk).2 (fun i hi => h _ ((hp_zero hy hk).1 e i hi))
    omega
  · omega
theorem held_mono {x y : Str} (hx : x.length ≤ 128) (hy : y.length ≤ 128) (h : ∀ i, gB y i = 0 → gB x i = 0) : heldN x ≤ heldN y := by
  have h0 := hp_mono hx hy h (k := 0) (by omega)
  have h1 := hp_mono hx hy h (k := 1) (by omega)
  have h2 := hp_mono hx hy h (k := 2) (by omega)
  have h3 := hp_mono hx hy h (k := 3) (by omega)
  unfold heldN; omega
theorem held_bound {x : Str} (hx : x.length ≤ 128) {L : Nat} (h : ∀ i, L ≤ i → gB x i = 0) : heldN x * 32 < L + 32 := by
  have key : ∀ k, k < 4 → L ≤ 32 * k → hp x k = 0 := fun k hk hl => (hp_zero hx hk).2 (fun i _ => h _ (by omega))
  have a0 := hp_le x 0
  have a1 := hp_le x 1
  have a2 := hp_le x 2
  have a3 := hp_le x 3
  have b0 := key 0 (by omega)
  have b1 := key 1 (by omega)
  have b2 := key 2 (by omega)
  have b3 := key 3 (by omega)
  unfold heldN; omega
theorem cuts_g (b : Str) (m n i : Nat) : gB (longS (longS b m) n) i = if i < n ∧ i < m then gB b i else 0 := by
  rw [longS_g, longS_g]
  by_cases h1 : i < n
  · rw [if_pos h1]
    by_cases h2 : i < m
    · rw [if_pos h2, if_pos ⟨h1, h2⟩]
    · rw [if_neg h2, if_neg (fun q => h2 q.2)]
  · rw [if_neg h1, if_neg (fun q => h1 q.1)]
theorem cuts_l1 (t0 : Str) (m n : Nat) (x10 x11 : List G_api_Node × Int) (x12 : Str × Int) (ht : t0.length ≤ 128) (hm : m ≤ 128) (hn : n ≤ 128) (h10 : x10.1 = setF (longS (longS t0 m) n) 0) (h11 : x11.1 = setF (longS t0 n) 0) (h12 : x12.1 = longS (longS t0 m) n) : ∀ j : Nat, j ≤ n → M_law15_DataCuts_l1 t0 (m : Int) (n : Int) x10 x11 x12 fuel (j : Int) = some true := by
  have lx : (longS (longS t0 m) n).length = n := longS_length _ _
  have ly : (longS t0 n).length = n := longS_length _ _
  refine up_fuel (Q := fun f j => M_law15_DataCuts_l1 t0 (m : Int) (n : Int) x10 x11 x12 f (j : Int) = some true) n (by omega) ?_ ?_
  · intro f
    have hb := held_bound (x := longS (longS t0 m) n) (by omega) (L := min (min m n) t0.length) (fun i hi => by
      rw [cuts_g]; split
      · rw [gB_out (by omega)]
      · rfl)
    have hmo := held_mono (x := longS (longS t0 m) n) (y := longS t0 n) (by omega) (by omega) (fun i hi => by
      rw [cuts_g]; rw [longS_g] at hi
      split
      · rename_i q; rwa [if_pos q.1] at hi
      · rfl)
    have hle : heldN (longS (longS t0 m) n) ≤ 4 := held_le _
    have b0 : bits4 0 = 0 := by kernel_rfl
    have e1 : w64 ((heldN (longS (longS t0 m) n) : Int) * 32) = (heldN (longS (longS t0 m) n) : Int) * 32 := w64_id (by omega) (by omega)
    have e2 : w64 (min (min (m : Int) (n : Int)) (t0.length : Int) + 32) = min (min (m : Int) (n : Int)) (t0.length : Int) + 32 := w64_id (by omega) (by omega)
    rw [M_law15_DataCuts_l1, decide_eq_false (by omega), cond_false, h10, h11, dstatF (by omega), bind_some', dstatF (by omega), bind_some', lx, ly, b0, sameF]
    simp only [Int.add_zero, e1, e2, beq_self_eq_true, Bool.true_and, decide_eq_true (show (heldN (longS (longS t0 m) n) : Int) ≤ (heldN (longS t0 n) : Int) by omega), decide_eq_true (show (heldN (longS (longS t0 m) n) : Int) * 32 < min (min (m : Int) (n : Int)) (t0.length : Int) + 32 by omega)]
    by_cases q : (n : Int) > (m : Int)
    · rw [decide_eq_true q]; simp [gd_false]
    · rw [decide_eq_false q]
      have : longS (longS t0 m) n = longS t0 n := by
        apply gB_ext
        · rw [lx, ly]
        · intro i hi
          rw [lx] at hi
          rw [cuts_g, longS_g, if_pos ⟨hi, by omega⟩, if_pos hi]
      simp [gd_true, this]
  · intro f j hj ih
    rw [M_law15_DataCuts_l1, decide_eq_true (by omega), cond_true, h12, getI_g (b := longS (longS t0 m) n) (by omega), w64_succ (by omega), cuts_g]
    by_cases q : j < min m t0.length
    · rw [decide_eq_true (show (j : Int) < min (m : Int) (t0.length : Int) by omega), decide_eq_false (show ¬ (j : Int) ≥ min (m : Int) (t0.length : Int) by omega), getI_g (b := t0) (by omega), if_pos (by omega)]
      simp only [bTT, gd_true, bind_some', bne_self_eq_false, Bool.and_false, bFF, bFT, Bool.and_self, gd_false, Bool.false_and, Bool.or_self, cond_false]
      exact ih
    · rw [decide_eq_false (show ¬ (j : Int) < min (m : Int) (t0.length : Int) by omega), decide_eq_true (show (j : Int) ≥ min (m : Int) (t0.length : Int) by omega)]
      have : (if j < n ∧ j < m then gB t0 j else 0) = 0 := by
        split
        · rw [gB_out (by omega)]
        · rfl
      rw [this]
      simp only [bFT, gd_false, bind_some', Bool.false_and, bFF, bTT, Bool.and_self, gd_true, bne_self_eq_false, Bool.and_false, Bool.or_self, cond_false]
      exact ih
theorem law_DataCuts (t0 : Str) (t1 t2 : UInt8) : M_law15_DataCuts t0 t1 t2 = some true := by
  unfold M_law15_DataCuts
  rw [begun15, bind_some', Bool.not_true, cond_false]
  by_cases hc : (t0.length : Int) > 128
  · rw [decide_eq_true hc]; rfl
  · have w0 := rwriteF (b := []) (by simp) 0 0 t0 (by omega)
    rw [wrB_new] at w0
    have w0' : M_ref11_Write (setF [] 0) [102] 0 t0 = some (setF t0 0, 0) := w0
    have r1 : remI (t1.toNat : Int) 129 = some ((t1.toNat % 129 : Nat) : Int) := remI_nat (b := 129) (by decide)
    have r2 : remI (t2.toNat : Int) 129 = some ((t2.toNat % 129 : Nat) : Int) := remI_nat (b := 129) (by decide)
    have hm : t1.toNat % 129 ≤ 128 := by omega
    have hn : t2.toNat % 129 ≤ 128 := by omega
    generalize t1.toNat % 129 = m at *
    generalize t2.toNat % 129 = n at *
    have ht : t0.length ≤ 128 := by omega
    have lm : (longS t0 m).length = m := longS_length _ _
    have lx : (longS (longS t0 m) n).length = n := longS_length _ _
    have rd := dreadF (b := longS (longS t0 m) n) (by omega) 0 0 128
    rw [read0] at rd
    have er : ((longS (longS t0 m) n).take (min (longS (longS t0 m) n).length (0 + 128))).drop (min 0 (longS (longS t0 m) n).length) = longS (longS t0 m) n := by
      rw [Nat.zero_min, List.drop_zero, List.take_of_length_le (by rw [lx]; omega)]
    rw [er] at rd
    have rd' : M_data_Read (setF (longS (longS t0 m) n) 0) [102] 0 128 = some (longS (longS t0 m) n, 0) := rd
    rw [decide_eq_false hc, cond_false, newF, bind_some', makeF, bind_some', w0', bind_some', r1, bind_some', r2, bind_some', dcutF ht 0 m hm, bind_some', dcutF (by omega) 0 n hn, bind_some', dcutF ht 0 n hn, bind_some', rd', bind_some']
    simp only [bne_self_eq_false, Bool.or_self, lx, cond_false]
    exact cuts_l1 t0 m n _ _ _ ht hm hn rfl rfl rfl 0 (Nat.zero_le _)
end Go.Proofs
