/-
  The law of labels that lie apart.
-/
import Derived.Test.YtmhfodjiefednaaR7WLabelApart
import Derived.Test.YtmhfodjiefednaaLW1
set_option maxRecDepth 20000
namespace Go.Proofs
open Go Go.Fhl
set_option linter.unusedVariables false
set_option linter.unusedSimpArgs false
/-- So many ones, so many noughts, a rest. -/
def mk1 (n m : Nat) (R : List Int) : List Int := List.replicate n 1 ++ (List.replicate m 0 ++ R)
theorem mark_get (P : List Int) (m : Nat) (R : List Int) (i : Int) (hi : i = P.length) : getI (P ++ (List.replicate (m + 1) 0 ++ R)) i = some 0 := by
  subst hi
  rw [getI_nat, List.getElem?_append_right (Nat.le_refl _), Nat.sub_self]
  rfl
theorem mark_set (P : List Int) (m : Nat) (R : List Int) (i : Int) (hi : i = P.length) : setI (P ++ (List.replicate (m + 1) 0 ++ R)) i 1 = some ((P ++ [1]) ++ (List.replicate m 0 ++ R)) := by
  subst hi
  rw [setI_nat (by simp; omega), List.set_append_right _ _ (Nat.le_refl _), Nat.sub_self]
  simp [List.replicate_succ]
theorem w01 : w64 (0 + 1) = 1 := by kernel_rfl
theorem rep_one (n : Nat) : List.replicate n (1 : Int) ++ [1] = List.replicate (n + 1) 1 := by rw [List.replicate_succ']
theorem mk1_get {n m : Nat} {R : List Int} {i : Int} (hi : i = n) : getI (mk1 n (m + 1) R) i = some 0 := mark_get _ _ _ _ (by simp [hi])
theorem mk1_set {n m : Nat} {R : List Int} {i : Int} (hi : i = n) : setI (mk1 n (m + 1) R) i (w64 (0 + 1)) = some (mk1 (n + 1) m R) := by
  unfold mk1
  rw [w01, mark_set _ _ _ _ (by simp [hi]), rep_one]
theorem mk1_len (n m : Nat) (R : List Int) : (mk1 n m R).length = n + (m + R.length) := by unfold mk1; simp
theorem apart_l4 (c1 c2 : Int → List Int → Option Bool) (x3 : Int) (N D : Nat) (hD : w64 (40 + x3) = (D : Int)) (hN : N ≤ 1000) : ∀ j : Nat, j ≤ N → M_law7_LabelApart_l4 c1 c2 x3 (List.replicate N 1) fuel (j : Int) = some true := by
  refine up_fuel (Q := fun f j => M_law7_LabelApart_l4 c1 c2 x3 (List.replicate N 1) f (j : Int) = some true) N (by omega) ?_ ?_
  · intro f
    have a4 : atS (D : Int) 4 = -1 := if_neg (fun q => by omega)
    have b1 : slotS (D : Int) 0 6 = -1 := if_neg (fun q => by omega)
    have b2 : slotS (D : Int) 0 (-1) = -1 := if_neg (fun q => by omega)
    rw [M_law7_LabelApart_l4, decide_eq_false (by simp), cond_false, hD, at_eq, bind_some', slot_eq, slot_eq, a4, b1, b2]
    rfl
  · intro f j hj ih
    rw [M_law7_LabelApart_l4, decide_eq_true (by simp; omega), cond_true, getI_lt (by simp; omega), bind_some', List.getElem_replicate, show ((1 : Int) != 1) = false from rfl, cond_false, w64_succ (by omega)]
    exact ih
theorem apart_l3 (c1 c2 : Int → List Int → Option Bool) (x3 k : Int) (D n0 m0 : Nat) (R : List Int) (hD : w64 (40 + x3) = (D : Int)) (hm : 6 ≤ m0) (hn : n0 + m0 ≤ 1000) (hs : ∀ s : Int, 0 ≤ s → s < 6 → slotS (D : Int) k s = (n0 : Int) + 1 + s) :
    ∀ s : Nat, s ≤ 6 → M_law7_LabelApart_l3 c1 c2 x3 k fuel (s : Int) (mk1 (n0 + 1 + s) (m0 - s) R) = c2 (w64 (k + 1)) (mk1 (n0 + 7) (m0 - 6) R) := by
  refine up_fuel (Q := fun f s => M_law7_LabelApart_l3 c1 c2 x3 k f (s : Int) (mk1 (n0 + 1 + s) (m0 - s) R) = c2 (w64 (k + 1)) (mk1 (n0 + 7) (m0 - 6) R)) 6 (by omega) ?_ ?_
  · intro f
    rw [M_law7_LabelApart_l3, decide_eq_false (by omega), cond_false]
  · intro f s hlt ih
    obtain ⟨m, hm'⟩ : ∃ m, m0 - s = m + 1 := ⟨m0 - s - 1, by omega⟩
    have e := hs (s : Int) (by omega) (by omega)
    rw [M_law7_LabelApart_l3, decide_eq_true (by omega), cond_true, hD, slot_eq, bind_some', e, hm', mk1_len, decide_eq_false (by omega), decide_eq_false (by omega), Bool.or_self, cond_false, mk1_get (by omega), bind_some', bind_some', mk1_set (by omega), bind_some', w64_succ (by omega)]
    have : m0 - (s + 1) = m := by omega
    rw [this] at ih
    exact ih
theorem apart_l2 (c1 : Int → List Int → Option Bool) (x3 : Int) (D n0 m0 : Nat) (R : List Int) (f : Nat) (k : Int) (hk : 0 ≤ k ∧ k < 4) (hD : w64 (40 + x3) = (D : Int)) (hm : 6 ≤ m0) (hn : n0 + m0 ≤ 1000) (ha : atS (D : Int) k = (n0 : Int)) (hs : ∀ s : Int, 0 ≤ s → s < 6 → slotS (D : Int) k s = (n0 : Int) + 1 + s) :
    M_law7_LabelApart_l2 c1 x3 (f + 1) k (mk1 n0 (m0 + 1) R) = M_law7_LabelApart_l2 c1 x3 f (w64 (k + 1)) (mk1 (n0 + 7) (m0 - 6) R) := by
  rw [M_law7_LabelApart_l2, decide_eq_true (by omega), cond_true, hD, at_eq, bind_some', ha, mk1_len, decide_eq_false (by omega), decide_eq_false (by omega), Bool.or_self, cond_false, mk1_get rfl, bind_some', bind_some', mk1_set rfl, bind_some']
  exact apart_l3 c1 _ x3 k D n0 m0 R hD hm hn hs 0 (by omega)
theorem apart_l1 (x3 : Int) (D : Nat) (hD : w64 (40 + x3) = (D : Int)) (h40 : 40 ≤ D ∧ D ≤ 240) : ∀ j : Nat, j ≤ D → M_law7_LabelApart_l1 x3 fuel (j : Int) ((List.replicate 14 0 ++ List.replicate j 1) ++ (List.replicate (D - j) 0 ++ List.replicate 14 0)) = some true := by
  refine up_fuel (Q := fun f j => M_law7_LabelApart_l1 x3 f (j : Int) ((List.replicate 14 0 ++ List.replicate j 1) ++ (List.replicate (D - j) 0 ++ List.replicate 14 0)) = some true) D (by omega) ?_ ?_
  · intro f
    have at0 : atS (D : Int) 0 = ((0 : Nat) : Int) := by rw [atS_in (by omega), if_neg (by omega)]; rfl
    have at1 : atS (D : Int) 1 = ((7 : Nat) : Int) := by rw [atS_in (by omega), if_neg (by omega)]; rfl
    have at2 : atS (D : Int) 2 = ((14 + D : Nat) : Int) := by rw [atS_in (by omega), if_pos (by omega)]; omega
    have at3 : atS (D : Int) 3 = ((14 + D + 7 : Nat) : Int) := by rw [atS_in (by omega), if_pos (by omega)]; omega
    have sl : ∀ (k : Int) (n : Nat), 0 ≤ k → k < 4 → atS (D : Int) k = (n : Int) → ∀ s : Int, 0 ≤ s → s < 6 → slotS (D : Int) k s = (n : Int) + 1 + s := by
      intro k n h1 h2 h3 s h4 h5
      unfold slotS; rw [if_pos ⟨⟨by omega, h1, h2⟩, h4, h5⟩, h3]
    have e0 : (List.replicate 14 (0 : Int) ++ List.replicate D 1) ++ (List.replicate (D - D) 0 ++ List.replicate 14 0) = mk1 0 14 (List.replicate D 1 ++ List.replicate 14 0) := by
      unfold mk1; rw [Nat.sub_self]; simp
    have e1 : mk1 (0 + 7 + 7) (6 - 6) (List.replicate D 1 ++ List.replicate 14 0) = mk1 (14 + D) 14 [] := by
      unfold mk1
      show List.replicate 14 (1 : Int) ++ ([] ++ (List.replicate D 1 ++ List.replicate 14 0)) = _
      rw [List.nil_append, ← List.append_assoc, List.replicate_append_replicate, List.append_nil]
    have e2 : mk1 (14 + D + 7 + 7) (6 - 6) [] = List.replicate (14 + D + 14) 1 := by unfold mk1; simp
    have w1 : w64 (0 + 1) = 1 := by kernel_rfl
    have w2 : w64 (1 + 1) = 2 := by kernel_rfl
    have w3 : w64 (2 + 1) = 3 := by kernel_rfl
    have w4 : w64 (3 + 1) = 4 := by kernel_rfl
    rw [M_law7_LabelApart_l1, hD, decide_eq_false (by omega), cond_false, e0]
    obtain ⟨n, hf⟩ : ∃ n, fuel = n + 1 + 1 + 1 + 1 + 1 := ⟨4611686018427387899, rfl⟩
    rw [hf, apart_l2 _ x3 D 0 13 _ _ 0 (by omega) hD (by omega) (by omega) at0 (sl 0 _ (by omega) (by omega) at0), w1,
      apart_l2 _ x3 D (0 + 7) 6 _ _ 1 (by omega) hD (by omega) (by omega) at1 (sl 1 _ (by omega) (by omega) at1), w2, e1,
      apart_l2 _ x3 D (14 + D) 13 _ _ 2 (by omega) hD (by omega) (by omega) at2 (sl 2 _ (by omega) (by omega) at2), w3,
      apart_l2 _ x3 D (14 + D + 7) 6 _ _ 3 (by omega) hD (by omega) (by omega) at3 (sl 3 _ (by omega) (by omega) at3), w4, e2,
      M_law7_LabelApart_l2, decide_eq_false (by omega), cond_false]
    exact apart_l4 _ _ x3 (14 + D + 14) D hD (by omega) 0 (by omega)
  · intro f j hj ih
    obtain ⟨m, hm⟩ : ∃ m, D - j = m + 1 := ⟨D - j - 1, by omega⟩
    have wj : w64 (14 + (j : Int)) = ((14 + j : Nat) : Int) := by rw [w64_id (by omega) (by omega)]; omega
    have hl : (((14 + j : Nat) : Nat) : Int) = ((List.replicate 14 (0 : Int) ++ List.replicate j 1).length : Int) := by rw [List.length_append, List.length_replicate, List.length_replicate]
    rw [M_law7_LabelApart_l1, hD, decide_eq_true (by omega), cond_true, wj, hm, mark_get _ _ _ _ hl, bind_some', bind_some', w01, mark_set _ _ _ _ hl, bind_some', w64_succ (by omega)]
    have e : D - (j + 1) = m := by omega
    rw [e, ← rep_one j, ← List.append_assoc (List.replicate 14 (0 : Int))] at ih
    exact ih
theorem law_LabelApart (t0 : UInt8) : M_law7_LabelApart t0 = some true := by
  unfold M_law7_LabelApart
  obtain ⟨m, hm, e1, e2⟩ := rem201 t0
  have e2' : w64 (40 + (m : Int)) = ((40 + m : Nat) : Int) := by rw [e2]; omega
  have e3 : w64 (28 + ((40 + m : Nat) : Int)) = ((28 + (40 + m) : Nat) : Int) := by rw [w64_id (by omega) (by omega)]; omega
  rw [begun7, bind_some', Bool.not_true, cond_false, e1, bind_some', e2', e3, makeL_nat (by omega) (by omega), bind_some']
  have := apart_l1 (m : Int) (40 + m) e2' (by omega) 0 (by omega)
  have e4 : (List.replicate 14 (0 : Int) ++ List.replicate 0 1) ++ (List.replicate (40 + m - 0) 0 ++ List.replicate 14 0) = List.replicate (28 + (40 + m)) 0 := by
    simp only [List.replicate_zero, List.append_nil, Nat.sub_zero, List.replicate_append_replicate]
    congr 1; omega
  rw [e4] at this
  exact this
end Go.Proofs
