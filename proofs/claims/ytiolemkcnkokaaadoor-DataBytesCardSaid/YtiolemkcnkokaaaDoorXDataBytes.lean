/-
  The law of what is written, cut and read.
-/
import Derived.Test.YtiolemkcnkokaaaDoorLW1
import Derived.Test.YtiolemkcnkokaaaDoorR157
import Derived.Test.YtiolemkcnkokaaaDoorR158
import Derived.Test.YtiolemkcnkokaaaDoorR15B
import Derived.Test.YtiolemkcnkokaaaDoorR15WDataBytes
import Derived.KernelRfl
set_option maxRecDepth 20000
namespace Go.Proofs
open Go Go.Fhl Classical
set_option linter.unusedVariables false
set_option linter.unusedSimpArgs false
theorem gB_set (l : Str) (k : Nat) (y : UInt8) (i : Nat) (hk : k < l.length) : gB (l.set k y) i = if i = k then y else gB l i := by
  unfold gB
  rw [List.getD_eq_getElem?_getD, List.getElem?_set]
  by_cases e : k = i
  · rw [if_pos e, if_pos e.symm, if_pos (by omega)]; rfl
  · rw [if_neg e, if_neg (fun q => e q.symm), List.getD_eq_getElem?_getD]
theorem want_step (b : Str) (k : Nat) (t : Str) (i : Nat) (hi : i < t.length) : ((wrB b k (t.take i) ++ zeros (k + i + 1 - (wrB b k (t.take i)).length)).set (k + i) (gB t i)) = wrB b k (t.take (i + 1)) := by
  have hl := wrB_len b k (t.take i)
  have hl2 := wrB_len b k (t.take (i + 1))
  have e1 : (t.take i).length = i := by rw [List.length_take]; omega
  have e2 : (t.take (i + 1)).length = i + 1 := by rw [List.length_take]; omega
  have n2 : t.take (i + 1) ≠ [] := fun q => by rw [q] at e2; cases e2
  rw [if_neg n2, e2] at hl2
  have hlen : (wrB b k (t.take i) ++ zeros (k + i + 1 - (wrB b k (t.take i)).length)).length = max b.length (k + i + 1) := by
    rw [List.length_append, zeros_length, hl, e1]
    split
    · omega
    · omega
  apply gB_ext
  · rw [List.length_set, hlen, hl2]; omega
  · intro j hj
    rw [List.length_set, hlen] at hj
    rw [gB_set _ _ _ _ (by rw [hlen]; omega), wrB_g, e2]
    by_cases q : j = k + i
    · rw [if_pos q, if_pos (by omega), gB_take, if_pos (by omega)]
      congr 1; omega
    · rw [if_neg q, gB_app, gB_zeros]
      have key : gB (wrB b k (t.take i)) j = if k ≤ j ∧ j < k + (i + 1) then gB (t.take (i + 1)) (j - k) else gB b j := by
        rw [wrB_g, e1]
        by_cases c : k ≤ j ∧ j < k + i
        · rw [if_pos c, if_pos (by omega), gB_take, gB_take, if_pos (by omega), if_pos (by omega)]
        · rw [if_neg c, if_neg (by omega)]
      rw [← key]
      split
      · rfl
      · rw [gB_out (by omega)]
theorem pad_l2 (c1 : Int → List UInt8 → Option Bool) (t1 : Str) (t3 t4 t5 : UInt8) (k i : Nat) (x8 : List G_api_Node × Int) (hk : k ≤ 1000) (hi : i ≤ 1000) : ∀ (d f : Nat) (v : Str), k + i + 1 - v.length = d → d < f → v.length ≤ 5000 → M_law15_DataBytes_l2 c1 t1 t3 t4 t5 (k : Int) x8 (i : Int) f v = M_law15_DataBytes_k1 c1 t1 t3 t4 t5 (k : Int) x8 (i : Int) (v ++ zeros (k + i + 1 - v.length)) := by
  intro d
  induction d with
  | zero =>
    intro f v hd hf hv
    obtain ⟨f, rfl⟩ : ∃ x, f = x + 1 := ⟨f - 1, by omega⟩
    rw [M_law15_DataBytes_l2, w64_id (by omega) (by omega), decide_eq_false (by omega), cond_false, hd]
    show _ = M_law15_DataBytes_k1 c1 t1 t3 t4 t5 (k : Int) x8 (i : Int) (v ++ [])
    rw [List.append_nil]
  | succ d ih =>
    intro f v hd hf hv
    obtain ⟨f, rfl⟩ : ∃ x, f = x + 1 := ⟨f - 1, by omega⟩
    rw [M_law15_DataBytes_l2, w64_id (by omega) (by omega), decide_eq_true (by omega), cond_true, appL_eq (by simp; omega), bind_some', ih f (v ++ [0]) (by simp; omega) (by omega) (by simp; omega)]
    congr 1
    rw [List.append_assoc]
    congr 1
    have : k + i + 1 - v.length = (k + i + 1 - (v ++ [0]).length) + 1 := by simp; omega
    rw [this]
    rfl
theorem pad_l3 (c1 : Int → List UInt8 → Option Bool) (t4 t5 : UInt8) (k : Nat) (x23 : List G_api_Node × Int) (hk : k ≤ 1000) : ∀ (d f : Nat) (v : Str), k - v.length = d → d < f → v.length ≤ 5000 → M_law15_DataBytes_l3 c1 t4 t5 (k : Int) x23 f v = M_law15_DataBytes_k2 c1 t4 t5 (k : Int) x23 (v ++ zeros (k - v.length)) := by
  intro d
  induction d with
  | zero =>
    intro f v hd hf hv
    obtain ⟨f, rfl⟩ : ∃ x, f = x + 1 := ⟨f - 1, by omega⟩
    rw [M_law15_DataBytes_l3, decide_eq_false (by omega), cond_false, hd]
    show _ = M_law15_DataBytes_k2 c1 t4 t5 (k : Int) x23 (v ++ [])
    rw [List.append_nil]
  | succ d ih =>
    intro f v hd hf hv
    obtain ⟨f, rfl⟩ : ∃ x, f = x + 1 := ⟨f - 1, by omega⟩
    rw [M_law15_DataBytes_l3, decide_eq_true (by omega), cond_true, appL_eq (by simp; omega), bind_some', ih f (v ++ [0]) (by simp; omega) (by omega) (by simp; omega)]
    congr 1
    rw [List.append_assoc]
    congr 1
    have : k - v.length = (k - (v ++ [0]).length) + 1 := by simp; omega
    rw [this]
    rfl
theorem getI_b {b : Str} {i : Nat} (h : i < b.length) : getI b (i : Int) = some (gB b i) := by rw [getI_nat, gB_some h]
theorem bytes_k2 (c1 : Int → List UInt8 → Option Bool) (t4 t5 : UInt8) (k : Nat) (W : Str) (hk : k ≤ 128) (hW : W.length ≤ 128) : M_law15_DataBytes_k2 c1 t4 t5 (k : Int) (setF (longS W k) 0, 0) (W ++ zeros (k - W.length)) = some true := by
  have lz : (longS W k).length = k := longS_length _ _
  have h4 := t4.toNat_lt
  have h5 := t5.toNat_lt
  unfold M_law15_DataBytes_k2
  have rd := dreadF (b := longS W k) (by omega) 0 0 128
  rw [read0] at rd
  have er : ((longS W k).take (min (longS W k).length (0 + 128))).drop (min 0 (longS W k).length) = longS W k := by
    rw [Nat.zero_min, List.drop_zero, List.take_of_length_le (by rw [lz]; omega)]
  rw [er] at rd
  have rd' : M_data_Read (setF (longS W k) 0) [102] 0 128 = some (longS W k, 0) := rd
  rw [slL_to (by rw [List.length_append, zeros_length]; omega), bind_some', cut_eq']
  simp only [dreadF (show (longS W k).length ≤ 128 by omega) 0 t4.toNat t5.toNat, bind_some', rd', read0, lz, beq_self_eq_true, Bool.and_self, bTT, gd_true, Bool.true_and, Bool.and_true]
  have e1 : min (t4.toNat : Int) (k : Int) = ((min t4.toNat k : Nat) : Int) := by omega
  have e2 : min (k : Int) (w64 (((min t4.toNat k : Nat) : Int) + (t5.toNat : Int))) = ((min k (min t4.toNat k + t5.toNat) : Nat) : Int) := by
    rw [w64_id (by omega) (by omega)]; omega
  rw [e1, e2, slL_nat (by omega) (by rw [lz]; omega), bind_some']
  have e3 : min k (min t4.toNat k + t5.toNat) = min k (t4.toNat + t5.toNat) := by omega
  rw [e3]
  simp
theorem bytes_l1 (t1 : Str) (t3 t4 t5 : UInt8) (b : Str) (k : Nat) (hb : b.length ≤ 128) (hk : k + t1.length ≤ 128) : ∀ j : Nat, j ≤ t1.length → M_law15_DataBytes_l1 t1 t3 t4 t5 (k : Int) (setF (wrB b k t1) 0, 0) fuel (j : Int) (wrB b k (t1.take j)) = some true := by
  have lw := wrB_128 (b := b) (k := k) (t := t1) hb hk
  refine up_fuel (Q := fun f j => M_law15_DataBytes_l1 t1 t3 t4 t5 (k : Int) (setF (wrB b k t1) 0, 0) f (j : Int) (wrB b k (t1.take j)) = some true) t1.length (by omega) ?_ ?_
  · intro f
    have r : remI (t3.toNat : Int) 129 = some ((t3.toNat % 129 : Nat) : Int) := remI_nat (b := 129) (by decide)
    have hm : t3.toNat % 129 ≤ 128 := by omega
    generalize t3.toNat % 129 = m at *
    rw [M_law15_DataBytes_l1, decide_eq_false (by omega), cond_false, r, bind_some', dcutF lw 0 m hm, bind_some', List.take_length, pad_l3 _ t4 t5 m _ (by omega) _ fuel _ rfl (by unfold fuel; omega) (by omega)]
    exact bytes_k2 _ t4 t5 m _ hm lw
  · intro f j hj ih
    have lj : (wrB b k (t1.take j)).length ≤ 128 := wrB_128 hb (by rw [List.length_take]; omega)
    rw [M_law15_DataBytes_l1, decide_eq_true (by omega), cond_true, pad_l2 _ t1 t3 t4 t5 k j _ (by omega) (by omega) _ fuel _ rfl (by unfold fuel; omega) (by omega)]
    have hlen : k + j < (wrB b k (t1.take j) ++ zeros (k + j + 1 - (wrB b k (t1.take j)).length)).length := by rw [List.length_append, zeros_length]; omega
    have ek : w64 ((k : Int) + (j : Int)) = ((k + j : Nat) : Int) := by rw [w64_id (by omega) (by omega)]; rfl
    unfold M_law15_DataBytes_k1
    rw [getI_b hj, bind_some', ek, getI_lt hlen, bind_some', setI_nat hlen, bind_some', want_step b k t1 j hj, w64_succ (by omega)]
    exact ih
theorem law_DataBytes (t0 t1 : Str) (t2 t3 t4 t5 : UInt8) : M_law15_DataBytes t0 t1 t2 t3 t4 t5 = some true := by
  unfold M_law15_DataBytes
  rw [begun15, bind_some', Bool.not_true, cond_false]
  cases hc : (decide ((t0.length : Int) > 128) || decide ((t1.length : Int) > 128)) with
  | true => rfl
  | false =>
    simp only [Bool.or_eq_false_iff, decide_eq_false_iff_not] at hc
    have w0 := dwriteF (b := []) (by simp) 0 0 t0 (by omega)
    rw [wrB_new] at w0
    have w0' : M_data_Write (setF [] 0) [102] 0 t0 = some (setF t0 0, 0) := w0
    have r : remI (t2.toNat : Int) 129 = some ((t2.toNat % 129 : Nat) : Int) := remI_nat (b := 129) (by decide)
    have hm : t2.toNat % 129 ≤ 128 := by omega
    generalize t2.toNat % 129 = m at *
    have h0 : t0.length ≤ 128 := by omega
    rw [cond_false, newF, bind_some', makeF, bind_some', w0', bind_some', r, bind_some', w64_id (by omega) (by omega)]
    by_cases q : m + t1.length ≤ 128
    · rw [dwriteF h0 0 m t1 q, bind_some', decide_eq_true (show (m : Int) + (t1.length : Int) ≤ 128 by omega)]
      simp only [bne_self_eq_false, beq_self_eq_true, Bool.or_self, cond_false]
      have := bytes_l1 t1 t3 t4 t5 t0 m h0 q 0 (Nat.zero_le _)
      have e : wrB t0 m (t1.take 0) = t0 := by unfold wrB; rw [if_pos (by simp)]
      rw [e] at this
      exact this
    · rw [dwriteF8 h0 0 m t1 (by omega) (by omega), bind_some', decide_eq_false (show ¬ (m : Int) + (t1.length : Int) ≤ 128 by omega), sameF]
      simp [gd_true]
end Go.Proofs
