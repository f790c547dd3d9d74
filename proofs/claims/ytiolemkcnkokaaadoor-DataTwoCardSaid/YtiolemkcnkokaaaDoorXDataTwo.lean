/-
  The law of two writes.
-/
import Derived.Test.YtiolemkcnkokaaaDoorLW1
import Derived.Test.YtiolemkcnkokaaaDoorR157
import Derived.Test.YtiolemkcnkokaaaDoorR15B
import Derived.Test.YtiolemkcnkokaaaDoorR15WDataTwo
import Derived.KernelRfl
set_option maxRecDepth 20000
namespace Go.Proofs
open Go Go.Fhl Classical
set_option linter.unusedVariables false
set_option linter.unusedSimpArgs false
theorem read_back (X : Str) (k : Nat) (t : Str) : ((wrB X k t).take (min (wrB X k t).length (k + t.length))).drop (min k (wrB X k t).length) = t := by
  have hl := wrB_len X k t
  by_cases e : t = []
  · rw [if_pos e] at hl
    subst e
    apply List.drop_eq_nil_of_le
    rw [List.length_take, hl]; simp; omega
  · rw [if_neg e] at hl
    have h0 : 0 < t.length := List.length_pos_iff.2 e
    apply gB_ext
    · rw [List.length_drop, List.length_take, hl]; omega
    · intro i hi
      rw [List.length_drop, List.length_take, hl] at hi
      rw [gB_drop, gB_take, hl, if_pos (by omega), wrB_g, if_pos (by omega)]
      congr 1; omega
theorem r60 (x : UInt8) : ∃ y, rem8 x 60 = some y ∧ y.toNat < 60 := by
  refine ⟨x % 60, rfl, ?_⟩
  rw [UInt8.toNat_mod]; exact Nat.mod_lt _ (by decide)
theorem two_apart (b one two : Str) (i k : Nat) (h : i + one.length ≤ k ∨ k + two.length ≤ i) : wrB (wrB b i one) k two = wrB (wrB b k two) i one := by
  apply gB_ext
  · rw [wrB_len, wrB_len, wrB_len, wrB_len]
    by_cases e1 : one = [] <;> by_cases e2 : two = [] <;> simp only [e1, e2, if_true, if_false] <;> omega
  · intro j _
    rw [wrB_g, wrB_g, wrB_g, wrB_g]
    by_cases c1 : k ≤ j ∧ j < k + two.length
    · rw [if_pos c1, if_neg (by omega), if_pos c1]
    · rw [if_neg c1]
      split
      · rfl
      · rfl
theorem law_DataTwo (t0 t1 t2 : Str) (t3 t4 : UInt8) : M_law15_DataTwo t0 t1 t2 t3 t4 = some true := by
  unfold M_law15_DataTwo
  rw [begun15, bind_some', Bool.not_true, cond_false]
  cases hc : ((decide ((t0.length : Int) > 128) || decide ((t1.length : Int) > 60)) || decide ((t2.length : Int) > 60)) with
  | true => rfl
  | false =>
    simp only [Bool.or_eq_false_iff, decide_eq_false_iff_not] at hc
    have w0 := dwriteF (b := []) (by simp) 0 0 t0 (by omega)
    rw [wrB_new] at w0
    have w0' : M_data_Write (setF [] 0) [102] 0 t0 = some (setF t0 0, 0) := w0
    obtain ⟨x, ex, hx⟩ := r60 t3
    obtain ⟨y, ey, hy⟩ := r60 t4
    have h0 : t0.length ≤ 128 := by omega
    have l1 : (wrB t0 x.toNat t1).length ≤ 128 := wrB_128 h0 (by omega)
    have l2 : (wrB t0 y.toNat t2).length ≤ 128 := wrB_128 h0 (by omega)
    have l3 : (wrB (wrB t0 x.toNat t1) y.toNat t2).length ≤ 128 := wrB_128 l1 (by omega)
    have l4 : (wrB (wrB t0 y.toNat t2) x.toNat t1).length ≤ 128 := wrB_128 l2 (by omega)
    rw [cond_false, newF, bind_some', makeF, bind_some', w0', bind_some', ex, bind_some', ey, bind_some',
      dwriteF h0 0 x.toNat t1 (by omega), bind_some', dwriteF l1 0 y.toNat t2 (by omega), bind_some', dwriteF h0 0 y.toNat t2 (by omega), bind_some', dwriteF l2 0 x.toNat t1 (by omega), bind_some']
    simp only [bne_self_eq_false, Bool.or_self, cond_false]
    rw [dreadF l3 0 y.toNat t2.length, bind_some', dreadF l4 0 x.toNat t1.length, bind_some', read0, read0, read_back, read_back, sameF]
    simp only [beq_self_eq_true, Bool.and_self, Bool.true_and]
    rw [w64_id (by omega) (by omega), w64_id (by omega) (by omega)]
    by_cases q : x.toNat + t1.length ≤ y.toNat ∨ y.toNat + t2.length ≤ x.toNat
    · have e : (decide ((x.toNat : Int) + (t1.length : Int) ≤ (y.toNat : Int)) || decide ((y.toNat : Int) + (t2.length : Int) ≤ (x.toNat : Int))) = true := by
        rw [Bool.or_eq_true, decide_eq_true_iff, decide_eq_true_iff]; omega
      rw [e, two_apart t0 t1 t2 _ _ q]
      simp [gd_true]
    · have e : (decide ((x.toNat : Int) + (t1.length : Int) ≤ (y.toNat : Int)) || decide ((y.toNat : Int) + (t2.length : Int) ≤ (x.toNat : Int))) = false := by
        rw [Bool.or_eq_false_iff, decide_eq_false_iff_not, decide_eq_false_iff_not]; omega
      rw [e]
      simp [gd_false]
end Go.Proofs
