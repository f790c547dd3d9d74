/-
  The law of changes against the document's.
-/
import Derived.Test.YtbeefpabcndkcaaDoorLW1
import Derived.Test.YtbeefpabcndkcaaDoorR1410
import Derived.Test.YtbeefpabcndkcaaDoorR1415
import Derived.Test.YtbeefpabcndkcaaDoorR149
import Derived.Test.YtbeefpabcndkcaaDoorR14B
import Derived.Test.YtbeefpabcndkcaaDoorR14WEditAll
import Derived.KernelRfl
set_option maxRecDepth 20000
namespace Go.Proofs
open Go Go.Fhl Classical
set_option linter.unusedVariables false
set_option linter.unusedSimpArgs false

theorem begun14 : M_law14_begun = some true := by kernel_rfl
theorem same_self {s : List Nod} (h : s.length ≤ 1000) : M_ref11_Same s s = some true := by rw [rsame_eq s s (by omega), decide_eq_true rfl]
theorem all14_l1 (t2 t3 : Str) (t4 : Int) (x5 : List Nod × G_palimpmade_Picks) (x7 x8 x9 x10 : Str × G_palimpmade_Picks) (x11 : Int × G_palimpmade_Picks) (h : SetOk x5.1)
    (ha : ∀ w ∈ [t2, x7.1, x8.1, t2], w.length < 1000000) (hb : ∀ w ∈ [t3, x9.1, t3, x10.1], w.length < 1000000) : ∀ j : Nat, j ≤ 4 → M_law14_EditAll_l1 t2 t3 t4 x5 x7 x8 x9 x10 x11 fuel (j : Int) = some true := by
  have hs : x5.1.length ≤ 12 := by rw [h.len]; omega
  have h1 : 1 ≤ x5.1.length := by rw [h.len]; omega
  refine up_fuel (Q := fun f j => M_law14_EditAll_l1 t2 t3 t4 x5 x7 x8 x9 x10 x11 f (j : Int) = some true) 4 (by omega) ?_ ?_
  · intro f
    rw [M_law14_EditAll_l1, decide_eq_false (by omega), cond_false]
  · intro f j hj ih
    obtain ⟨w, e1, m1⟩ := getn (l := [t2, x7.1, x8.1, t2]) rfl hj
    obtain ⟨k, e2, _⟩ := getn (l := ([t4, (w64 (1 + x11.1)), 1, 2] : List Int)) rfl hj
    obtain ⟨v, e3, m3⟩ := getn (l := [t3, x9.1, t3, x10.1]) rfl hj
    have w1 := ha w m1
    have w3 := hb v m3
    have l1 : (makeS x5.1 w k).1.length ≤ 1000 := by rw [(make_ok h w k).len]; omega
    have l2 : (dropS x5.1 w).1.length ≤ 1000 := by rw [(drop_ok h w).len]; omega
    have l3 : (moveS x5.1 w v).1.length ≤ 1000 := by rw [(move_ok h w v).len]; omega
    have q : ∀ a : Int, (a != a) = false := fun a => by simp
    rw [M_law14_EditAll_l1, decide_eq_true (show (j : Int) < 4 by omega), cond_true]
    simp only [e1, e2, e3, bind_some', emake_eq x5.1 w k hs h1 w1, rmake_eq x5.1 w k (by omega) h1 w1, edrop_eq x5.1 w hs h1 w1, rdrop_eq x5.1 w (by omega) h1 w1, emove_eq h w v w1 w3, rmove_eq x5.1 w v (by omega) h1 h.upOk w1 w3, q, bFF, gd_true, same_self l1, same_self l2, same_self l3, Bool.not_true, Bool.or_self, cond_false, w64_succ (show j < 9223372036854775807 by omega)]
    exact ih
theorem law_EditAll (t0 t1 : List UInt8) (t2 t3 : Str) (t4 : Int) : M_law14_EditAll t0 t1 t2 t3 t4 = some true := by
  unfold M_law14_EditAll
  rw [begun14, bind_some', Bool.not_true, cond_false]
  cases hc : (((decide ((t0.length : Int) > 60) || decide ((t1.length : Int) > 6)) || decide ((t2.length : Int) > 80)) || decide ((t3.length : Int) > 80)) with
  | true => rfl
  | false =>
    simp only [Bool.or_eq_false_iff, decide_eq_false_iff_not] at hc
    rw [cond_false, M_made_Made, bind_some']
    obtain ⟨s, p, e1, hs, _⟩ := set_made _ (wf_made t0 (by omega)) 25 (by omega)
    have e1' : M_made_Picks_Set ⟨t0, 0⟩ 25 = some (s, p) := e1
    obtain ⟨a, q1, e2, w1, m1⟩ := path_ok _ (wf_made t1 (by omega))
    obtain ⟨b, q2, e3, w2, m2⟩ := path_ok q1 w1
    obtain ⟨c, q3, e4, w3, m3⟩ := path_ok q2 w2
    obtain ⟨d, q4, e5, w4, m4⟩ := path_ok q3 w3
    obtain ⟨n, q5, e6, w5, _⟩ := num_ok q4 w4 2 (by omega)
    rw [e1', bind_some', M_made_Made, bind_some', e2, bind_some', e3, bind_some', e4, bind_some', e5, bind_some', e6, bind_some']
    refine all14_l1 t2 t3 t4 _ _ _ _ _ _ hs (fun w hw => ?_) (fun w hw => ?_) 0 (Nat.zero_le _)
    · have k1 := ways15_len m1
      have k2 := ways15_len m2
      simp only [List.mem_cons, List.not_mem_nil, or_false] at hw
      rcases hw with rfl | rfl | rfl | rfl <;> first | omega | (simp only; omega)
    · have k1 := ways15_len m3
      have k2 := ways15_len m4
      simp only [List.mem_cons, List.not_mem_nil, or_false] at hw
      rcases hw with rfl | rfl | rfl | rfl <;> first | omega | (simp only; omega)
end Go.Proofs
