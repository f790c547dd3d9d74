/-
  The law that all may be behind changes.
-/
import Derived.Test.YtbeefpabcndkcaaDoorLW1
import Derived.Test.YtbeefpabcndkcaaDoorR1410
import Derived.Test.YtbeefpabcndkcaaDoorR1415
import Derived.Test.YtbeefpabcndkcaaDoorR1417
import Derived.Test.YtbeefpabcndkcaaDoorR149
import Derived.Test.YtbeefpabcndkcaaDoorR14B
import Derived.Test.YtbeefpabcndkcaaDoorR14WEditMay
import Derived.KernelRfl
set_option maxRecDepth 20000
namespace Go.Proofs
open Go Go.Fhl Classical
set_option linter.unusedVariables false
set_option linter.unusedSimpArgs false

theorem begun14 : M_law14_begun = some true := by kernel_rfl
theorem same_self {s : List Nod} (h : s.length ≤ 1000) : M_ref11_Same s s = some true := by rw [rsame_eq s s (by omega), decide_eq_true rfl]
theorem may_self {s : List Nod} (h : SetOk s) : M_ref11_May s = some true := by
  rw [rmay_eq s (by rw [h.len]; omega) h.small, decide_eq_true h]
theorem may_k2 (c : List Nod → Int → G_palimpmade_Picks → Option Bool) (s : List Nod) (v : Int) (x : G_api_Step × G_palimpmade_Picks) (y : List Nod) (e : Int) (hs : SetOk s) (hy : SetOk y) (he : e ≠ 0 → y = s) : M_law14_EditMay_k2 c s v x y e = c y (w64 (v + 1)) x.2 := by
  unfold M_law14_EditMay_k2 M_law14_EditMay_k1
  rw [may_self hy, bind_some']
  by_cases q : e = 0
  · rw [bneF q]; rfl
  · rw [bneT q, he q, Bool.not_true, bFF, bTT, Bool.and_self, gd_true, same_self (by rw [hs.len]; omega)]; rfl
theorem may14_l1 : ∀ j : Nat, j ≤ 40 → ∀ (s : List Nod) (p : G_palimpmade_Picks), SetOk s → WfP p → M_law14_EditMay_l1 fuel s (j : Int) p = some true := by
  refine up_fuel (Q := fun f j => ∀ (s : List Nod) (p : G_palimpmade_Picks), SetOk s → WfP p → M_law14_EditMay_l1 f s (j : Int) p = some true) 40 (by omega) ?_ ?_
  · intro f s p hs hp
    rw [M_law14_EditMay_l1, decide_eq_false (show ¬ (((40 : Nat) : Int) < 40) by omega)]
    rfl
  · intro f j hj ih s p hs hp
    have hl : s.length ≤ 12 := by rw [hs.len]; omega
    have h1 : 1 ≤ s.length := by rw [hs.len]; omega
    rw [M_law14_EditMay_l1, decide_eq_true (show (j : Int) < 40 by omega), bTT, cond_true, M_made_Picks_Over, bind_some', Bool.true_and]
    cases ho : decide (p.n ≥ (p.l.length : Int)) with
    | true => rfl
    | false =>
      obtain ⟨st, q, e1, w1, k1⟩ := edit_ok p hp 1
      have a1 := ways15_len k1.path
      have a2 := k1.dest
      rw [Bool.not_false, cond_true, e1, bind_some', emake_eq s _ _ hl h1 (by simp only; omega), edrop_eq s _ hl h1 (by simp only; omega), emove_eq hs _ _ (by simp only; omega) (by simp only; omega), bind_some', bind_some', bind_some',
        may_k2 _ s _ _ _ _ hs (make_ok hs _ _) make_err, may_k2 _ s _ _ _ _ hs (drop_ok hs _) drop_err, may_k2 _ s _ _ _ _ hs (move_ok hs _ _) (move_err hs), may_k2 _ s _ _ _ _ hs hs (fun e => rfl), w64_succ (by omega)]
      have t1 := ih _ q (make_ok hs st.Path st.N) w1
      have t2 := ih _ q (drop_ok hs st.Path) w1
      have t3 := ih _ q (move_ok hs st.Path st.To) w1
      have t4 := ih s q hs w1
      rw [t1, t2, t3, t4]
      cases (st.Kind == 1) <;> cases (st.Kind == 2) <;> cases (st.Kind == 3) <;> rfl
theorem law_EditMay (t0 : List UInt8) : M_law14_EditMay t0 = some true := by
  unfold M_law14_EditMay
  rw [begun14, bind_some', Bool.not_true, cond_false]
  by_cases hc : (t0.length : Int) > 150
  · rw [decide_eq_true hc]; rfl
  · rw [decide_eq_false hc, cond_false, M_made_Made, bind_some', rnew_eq, bind_some']
    exact may14_l1 0 (Nat.zero_le _) newS _ new_ok11 (wf_made t0 (by omega))
end Go.Proofs
