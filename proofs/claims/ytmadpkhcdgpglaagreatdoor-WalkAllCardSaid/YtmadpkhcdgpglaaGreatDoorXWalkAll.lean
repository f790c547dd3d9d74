/-
  The law of ways against the document's.
-/
import Derived.Test.YtmadpkhcdgpglaaGreatDoorLW1
import Derived.Test.YtmadpkhcdgpglaaGreatDoorR13Z13
import Derived.Test.YtmadpkhcdgpglaaGreatDoorR13Z8
import Derived.Test.YtmadpkhcdgpglaaGreatDoorR13ZB
import Derived.Test.YtmadpkhcdgpglaaGreatDoorR13ZWWalkAll
import Derived.KernelRfl
set_option maxRecDepth 20000
namespace Go.Proofs
open Go Go.Fhl Classical
set_option linter.unusedVariables false
set_option linter.unusedSimpArgs false
theorem wa_l4 (c1 c3 : Int → Option Bool) (t3 t4 : Int) (x5 : List Nod × G_palimpmade_Picks) (h : SetOk x5.1) (v : Int) : ∀ j : Nat, j ≤ 9 → M_law13_WalkAll_l4 c1 c3 t3 t4 x5 v fuel (j : Int) = c3 (w64 (v + 1)) := by
  refine up_fuel (Q := fun f j => M_law13_WalkAll_l4 c1 c3 t3 t4 x5 v f (j : Int) = c3 (w64 (v + 1))) 9 (by omega) ?_ ?_
  · intro f
    rw [M_law13_WalkAll_l4, decide_eq_false (by omega), cond_false]
  · intro f j hj ih
    rw [M_law13_WalkAll_l4, decide_eq_true (by omega), cond_true, wwithin_eq h, bind_some', rwithin_eq x5.1 (by rw [h.len]; omega) h.upOk, bind_some', bne_self_eq_false, cond_false, w64_succ (by omega)]
    exact ih
theorem wa_l3 (c1 : Int → Option Bool) (t3 t4 : Int) (x5 : List Nod × G_palimpmade_Picks) (h : SetOk x5.1) : ∀ j : Nat, j ≤ 11 → M_law13_WalkAll_l3 c1 t3 t4 x5 fuel ((j : Int) - 1) = some true := by
  refine up_fuel (Q := fun f j => M_law13_WalkAll_l3 c1 t3 t4 x5 f ((j : Int) - 1) = some true) 11 (by omega) ?_ ?_
  · intro f
    rw [M_law13_WalkAll_l3, decide_eq_false (by omega), cond_false]
  · intro f j hj ih
    have l4 : ∀ c1 c3, M_law13_WalkAll_l4 c1 c3 t3 t4 x5 ((j : Int) - 1) fuel 0 = c3 (w64 ((j : Int) - 1 + 1)) := fun c1 c3 => wa_l4 c1 c3 t3 t4 x5 h ((j : Int) - 1) 0 (Nat.zero_le _)
    have e : w64 ((j : Int) - 1 + 1) = ((j + 1 : Nat) : Int) - 1 := by rw [w64_id (by omega) (by omega)]; omega
    have hl : x5.1.length ≤ 1000 := by rw [h.len]; omega
    rw [M_law13_WalkAll_l3, decide_eq_true (by omega), cond_true, wway_eq h, bind_some', rway_eq h, bind_some']
    simp only [bne_self_eq_false, Bool.or_self, bFF, gd_true, wwithin_eq h, rwithin_eq x5.1 hl h.upOk, bind_some', cond_false]
    rw [l4, e]
    exact ih
theorem wa_l2 (c1 : Int → Option Bool) (t2 : Str) (t3 t4 : Int) (x5 x7 : List Nod × G_palimpmade_Picks) (x9 x10 : Str × G_palimpmade_Picks) (v : Int) (w : Str) (hw : w.length < 1000000) (hg : getI ([t2, x9.1, x10.1, ([97, 47, 98] : Str), ([97] : Str)] : List Str) v = some w) (h5 : x5.1.length = 8) (h7 : x7.1.length = 8) : ∀ j : Nat, j ≤ 2 → M_law13_WalkAll_l2 c1 t2 t3 t4 x5 x7 x9 x10 v fuel (j : Int) = c1 (w64 (v + 1)) := by
  refine up_fuel (Q := fun f j => M_law13_WalkAll_l2 c1 t2 t3 t4 x5 x7 x9 x10 v f (j : Int) = c1 (w64 (v + 1))) 2 (by omega) ?_ ?_
  · intro f
    rw [M_law13_WalkAll_l2, decide_eq_false (by omega), cond_false]
  · intro f j hj ih
    obtain ⟨s, e, m⟩ := getn (l := [x5.1, x7.1]) rfl hj
    have hl : s.length = 8 := by
      simp only [List.mem_cons, List.not_mem_nil, or_false] at m
      rcases m with rfl | rfl
      · exact h5
      · exact h7
    rw [M_law13_WalkAll_l2, decide_eq_true (by omega), cond_true]
    simp only [e, hg, bind_some', wfind_eq s w (show s.length ≤ 12 by omega) (show 1 ≤ s.length by omega) hw, rfind_eq s w (show s.length ≤ 1000 by omega) (show 1 ≤ s.length by omega) hw, wplace_eq s w (show s.length ≤ 12 by omega) (show 1 ≤ s.length by omega) hw, rplace_eq s w (show s.length ≤ 1000 by omega) (show 1 ≤ s.length by omega) hw, bne_self_eq_false, Bool.or_self, cond_false, w64_succ (show j < 9223372036854775807 by omega)]
    exact ih
theorem wa_l1 (t2 : Str) (t3 t4 : Int) (x5 x7 : List Nod × G_palimpmade_Picks) (x9 x10 : Str × G_palimpmade_Picks) (h : SetOk x5.1) (h7 : x7.1.length = 8) (hw : ∀ w ∈ ([t2, x9.1, x10.1, ([97, 47, 98] : Str), ([97] : Str)] : List Str), w.length < 1000000) : ∀ j : Nat, j ≤ 5 → M_law13_WalkAll_l1 t2 t3 t4 x5 x7 x9 x10 fuel (j : Int) = some true := by
  refine up_fuel (Q := fun f j => M_law13_WalkAll_l1 t2 t3 t4 x5 x7 x9 x10 f (j : Int) = some true) 5 (by omega) ?_ ?_
  · intro f
    rw [M_law13_WalkAll_l1, decide_eq_false (by simp only [List.length_cons, List.length_nil]; omega), cond_false]
    exact wa_l3 _ t3 t4 x5 h 0 (Nat.zero_le _)
  · intro f j hj ih
    obtain ⟨w, e, m⟩ := getn (l := ([t2, x9.1, x10.1, ([97, 47, 98] : Str), ([97] : Str)] : List Str)) rfl hj
    have l2 : ∀ c1, M_law13_WalkAll_l2 c1 t2 t3 t4 x5 x7 x9 x10 (j : Int) fuel 0 = c1 (w64 ((j : Int) + 1)) := fun c1 => wa_l2 c1 t2 t3 t4 x5 x7 x9 x10 (j : Int) w (hw w m) e h.len h7 0 (Nat.zero_le _)
    rw [M_law13_WalkAll_l1, decide_eq_true (by simp only [List.length_cons, List.length_nil]; omega), cond_true, l2, w64_succ (by omega)]
    exact ih
theorem law_WalkAll (t0 t1 : List UInt8) (t2 : Str) (t3 t4 : Int) : M_law13_WalkAll t0 t1 t2 t3 t4 = some true := by
  unfold M_law13_WalkAll
  rw [begun13, bind_some', Bool.not_true, cond_false]
  cases hc : ((decide ((t0.length : Int) > 60) || decide ((t1.length : Int) > 2)) || decide ((t2.length : Int) > 80)) with
  | true => rfl
  | false =>
    simp only [Bool.or_eq_false_iff, decide_eq_false_iff_not] at hc
    obtain ⟨s, p, e1, hs, _⟩ := set_made _ (wf_made t0 (by omega)) 25 (by omega)
    have e1' : M_made_Picks_Set ⟨t0, 0⟩ 25 = some (s, p) := e1
    obtain ⟨t, p2, e2, ht, _⟩ := torn_made _ (wf_made t0 (by omega)) 15 (by omega)
    have e2' : M_made_Picks_Torn ⟨t0, 0⟩ 15 = some (t, p2) := e2
    obtain ⟨a, q1, e3, w1, m1⟩ := path_ok _ (wf_made t1 (by omega))
    obtain ⟨b, q2, e4, w2, m2⟩ := path_ok q1 w1
    have k1 := ways15_len m1
    have k2 := ways15_len m2
    rw [cond_false, M_made_Made, bind_some', e1', bind_some', bind_some', e2', bind_some', M_made_Made, bind_some', e3, bind_some', e4, bind_some']
    refine wa_l1 t2 t3 t4 _ _ _ _ hs (tornOk_iff t |>.1 ht).1 (fun w hw => ?_) 0 (Nat.zero_le _)
    simp only [List.mem_cons, List.not_mem_nil, or_false] at hw
    rcases hw with rfl | rfl | rfl | rfl | rfl <;> first | omega | (simp only; omega) | decide
end Go.Proofs
