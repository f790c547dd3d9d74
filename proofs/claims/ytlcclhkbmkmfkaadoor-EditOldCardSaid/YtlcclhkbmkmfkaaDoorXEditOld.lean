/-
  The law that what is told is new memory.
-/
import Derived.Test.YtlcclhkbmkmfkaaDoorLW1
import Derived.Test.YtlcclhkbmkmfkaaDoorREO10
import Derived.Test.YtlcclhkbmkmfkaaDoorREO15
import Derived.Test.YtlcclhkbmkmfkaaDoorREO9
import Derived.Test.YtlcclhkbmkmfkaaDoorREOB
import Derived.Test.YtlcclhkbmkmfkaaDoorREOWEditOld
import Derived.KernelRfl
set_option maxRecDepth 20000
namespace Go.Proofs
open Go Go.Fhl Classical
set_option linter.unusedVariables false
set_option linter.unusedSimpArgs false
theorem begun14 : M_law14_begun = some true := by kernel_rfl
theorem same_self {s : List Nod} (h : s.length ≤ 1000) : M_ref11_Same s s = some true := by rw [rsame_eq s s (by omega), decide_eq_true rfl]
/-- A row of which the first is so. -/
structure HeadIs (x : Nod) (A : List Nod) : Prop where
  len : A.length = 8
  head : A[0]? = some x
theorem old_set {x : Nod} {A : List Nod} {j : Nat} (hl : A.length = 8) (hj : j < 8) (h : 0 < j → HeadIs x A) : ∃ B, setI A (j : Int) x = some B ∧ HeadIs x B := by
  refine ⟨A.set j x, setI_nat (by omega), by simp [hl], ?_⟩
  rw [List.getElem?_set]
  by_cases q : j = 0
  · rw [if_pos q, if_pos (by omega)]
  · rw [if_neg q]; exact (h (by omega)).head
theorem old_l1 (x5 : List Nod × G_palimpmade_Picks) (hx : x5.1.length = 8) : ∀ j : Nat, j ≤ 8 → ∀ A B C : List Nod, A.length = 8 → B.length = 8 → C.length = 8 →
    (0 < j → HeadIs ⟨3, 0, [], [], 0⟩ A ∧ HeadIs ⟨1, 0, [], [], 0⟩ B ∧ HeadIs ⟨0, 9, [], [], 0⟩ C) → M_law14_EditOld_l1 x5 x5.1 fuel (j : Int) A B C = some true := by
  refine up_fuel (Q := fun f j => ∀ A B C : List Nod, A.length = 8 → B.length = 8 → C.length = 8 →
    (0 < j → HeadIs ⟨3, 0, [], [], 0⟩ A ∧ HeadIs ⟨1, 0, [], [], 0⟩ B ∧ HeadIs ⟨0, 9, [], [], 0⟩ C) → M_law14_EditOld_l1 x5 x5.1 f (j : Int) A B C = some true) 8 (by omega) ?_ ?_
  · intro f A B C _ _ _ h
    obtain ⟨h1, h2, h3⟩ := h (by omega)
    have g1 : getI A 0 = some _ := h1.head
    have g2 : getI B 0 = some _ := h2.head
    have g3 : getI C 0 = some _ := h3.head
    rw [M_law14_EditOld_l1, decide_eq_false (by omega), cond_false, same_self (by omega), bind_some', g1, g2, g3]
    rfl
  · intro f j hj ih A B C hA hB hC h
    obtain ⟨A', eA, hA'⟩ := old_set (x := ⟨3, 0, [], [], 0⟩) hA hj (fun q => (h q).1)
    obtain ⟨B', eB, hB'⟩ := old_set (x := ⟨1, 0, [], [], 0⟩) hB hj (fun q => (h q).2.1)
    obtain ⟨C', eC, hC'⟩ := old_set (x := ⟨0, 9, [], [], 0⟩) hC hj (fun q => (h q).2.2)
    rw [M_law14_EditOld_l1, decide_eq_true (by omega), cond_true, getI_lt (by omega), bind_some', eA, bind_some', getI_lt (by omega), bind_some', eB, bind_some', getI_lt (by omega), bind_some', eC, bind_some', w64_succ (by omega)]
    exact ih A' B' C' hA'.len hB'.len hC'.len (fun _ => ⟨hA', hB', hC'⟩)
theorem law_EditOld (t0 t1 : List UInt8) : M_law14_EditOld t0 t1 = some true := by
  unfold M_law14_EditOld
  rw [begun14, bind_some', Bool.not_true, cond_false]
  cases hc : (decide ((t0.length : Int) > 60) || decide ((t1.length : Int) > 6)) with
  | true => rfl
  | false =>
    simp only [Bool.or_eq_false_iff, decide_eq_false_iff_not] at hc
    rw [cond_false, M_made_Made, bind_some']
    obtain ⟨s, p, e1, hs, _⟩ := set_made _ (wf_made t0 (by omega)) 25 (by omega)
    have e1' : M_made_Picks_Set ⟨t0, 0⟩ 25 = some (s, p) := e1
    obtain ⟨st, q, e2, w2, k1⟩ := edit_ok _ (wf_made t1 (by omega)) 1
    have a1 := ways15_len k1.path
    have a2 := k1.dest
    have hl : s.length ≤ 12 := by rw [hs.len]; omega
    have h1 : 1 ≤ s.length := by rw [hs.len]; omega
    have l1 := (make_ok hs st.Path 1).len
    have l2 := (drop_ok hs st.Path).len
    have l3 := (move_ok hs st.Path st.To).len
    have ea : appL 56 ([] : List Nod) s = some s := by rw [appL_eq (by simp; omega), List.nil_append]
    rw [e1', bind_some', ea, bind_some', M_made_Made, bind_some', e2, bind_some', emake_eq s _ _ hl h1 (by simp only; omega), edrop_eq s _ hl h1 (by simp only; omega), emove_eq hs _ _ (by simp only; omega) (by simp only; omega), bind_some', bind_some', bind_some']
    have c : ∀ x y z : List Nod, x.length = 8 → y.length = 8 → z.length = 8 → ((((x.length : Nat) : Int) != (s.length : Int)) || (((y.length : Nat) : Int) != (s.length : Int)) || (((z.length : Nat) : Int) != (s.length : Int))) = false := by
      intro x y z hx hy hz
      rw [hx, hy, hz, hs.len]; rfl
    rw [c _ _ _ l1 l2 l3, cond_false]
    exact old_l1 (s, p) hs.len 0 (Nat.zero_le _) _ _ _ l1 l2 l3 (fun h => absurd h (by omega))
end Go.Proofs
