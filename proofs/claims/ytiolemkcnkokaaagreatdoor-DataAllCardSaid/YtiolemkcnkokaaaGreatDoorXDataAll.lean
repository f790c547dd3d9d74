/-
  The law of files against the document's.
-/
import Derived.Test.YtiolemkcnkokaaaGreatDoorLW1
import Derived.Test.YtiolemkcnkokaaaGreatDoorR15Z10
import Derived.Test.YtiolemkcnkokaaaGreatDoorR15Z11
import Derived.Test.YtiolemkcnkokaaaGreatDoorR15Z15
import Derived.Test.YtiolemkcnkokaaaGreatDoorR15Z16
import Derived.Test.YtiolemkcnkokaaaGreatDoorR15Z9
import Derived.Test.YtiolemkcnkokaaaGreatDoorR15ZB
import Derived.Test.YtiolemkcnkokaaaGreatDoorR15ZWDataAll
import Derived.KernelRfl
set_option maxRecDepth 20000
namespace Go.Proofs
open Go Go.Fhl Classical
set_option linter.unusedVariables false
set_option linter.unusedSimpArgs false
theorem begun15z : M_law15_begun = some true := by kernel_rfl
theorem fit_ok {s : List Nod} (h : SetOk s) : Fit s := by
  refine ⟨by rw [h.len]; omega, by rw [h.len]; omega, fun i => ?_⟩
  by_cases a : 1 ≤ i ∧ i < 8
  · rcases h.nod i a.1 a.2 with q | q
    · rw [q]; exact Nat.zero_le _
    · exact q.body
  · by_cases b : i < 1
    · have : nd s i = nd s 0 := by unfold nd; congr 1; omega
      rw [this, h.root]; exact Nat.zero_le _
    · rw [nd_far (by rw [h.len]; omega)]; exact Nat.zero_le _
theorem fit_torn {s : List Nod} (h : TornOk s) : Fit s := by
  obtain ⟨h1, h2, h3⟩ := (tornOk_iff s).1 h
  refine ⟨by omega, by omega, fun i => ?_⟩
  by_cases a : 1 ≤ i ∧ i < 8
  · rcases h3 i a.1 a.2 with q | q | q
    · rw [q]; exact Nat.zero_le _
    · rw [q]; exact Nat.zero_le _
    · exact q.1.2.2.2
  · by_cases b : i < 1
    · have : nd s i = nd s 0 := by unfold nd; congr 1; omega
      rw [this, h2]; exact Nat.zero_le _
    · rw [nd_far (by rw [h1]; omega)]; exact Nat.zero_le _
theorem same8 {s : List Nod} (h : SetOk s) : M_ref11_Same s s = some true := by rw [rsame_eq s s (by rw [h.len]; omega), decide_eq_true rfl]
theorem listS_len (s : List Nod) (w : Str) (hs : s.length ≤ 1000) : (listS s w).1.length < 1000000 := by
  unfold listS
  have := kidsS_len s (findS s w).1
  split
  · exact Nat.succ_pos _
  · split
    · exact Nat.succ_pos _
    · split
      · exact Nat.succ_pos _
      · rw [List.length_map]; omega
section
variable (t2 : Str) (t3 t4 t5 : Int) (t6 : Str) (t7 : Int) (x5 x7 : List G_api_Node × G_palimpmade_Picks) (x9 x10 : Str × G_palimpmade_Picks) (x11 x12 : Int × G_palimpmade_Picks) (x13 : Str × G_palimpmade_Picks)
theorem da_l3 (c1 c2 : Int → Option Bool) (v : Int) (u : Int) (z : List Nod) (w : Str) (o : Int) (hz : Fit z) (hw : w.length < 1000000) (e1 : getI ([t2, x9.1, x10.1, ([97] : Str)] : List Str) v = some w) (e2 : getI ([t3, x11.1, 127, 0] : List Int) v = some o) : ∀ j : Nat, j ≤ 2 → M_law15_DataAll_l3 c1 c2 t2 t3 t4 t5 t6 t7 x5 x7 x9 x10 x11 x12 x13 v u z fuel (j : Int) = c2 (w64 (u + 1)) := by
  refine up_fuel (Q := fun f j => M_law15_DataAll_l3 c1 c2 t2 t3 t4 t5 t6 t7 x5 x7 x9 x10 x11 x12 x13 v u z f (j : Int) = c2 (w64 (u + 1))) 2 (by omega) ?_ ?_
  · intro f
    obtain ⟨a, ea⟩ : ∃ a, M_data_Stat z w = some a := ⟨_, dstat_eq hz w hw⟩
    have hl := listS_len z w (by have := hz.l12; omega)
    rw [M_law15_DataAll_l3, decide_eq_false (by omega), cond_false]
    simp only [e1, bind_some', ea, rstat_eq hz w hw, decide_true, Bool.not_true, bne_self_eq_false, Bool.or_self, cond_false, dlist_eq hz w hw, rlist_eq hz w hw, bFF, gd_true, samet_eq _ _ hl]
  · intro f j hj ih
    obtain ⟨n, en, _⟩ := getn (l := ([t4, 33] : List Int)) rfl hj
    rw [M_law15_DataAll_l3, decide_eq_true (by omega), cond_true]
    simp only [en, e1, e2, bind_some', dread_eq' hz w _ _ hw, rread_eq' hz w _ _ hw, bne_self_eq_false, Bool.or_self, cond_false, w64_succ (show j < 9223372036854775807 by omega)]
    exact ih
theorem da_l2 (c1 : Int → Option Bool) (v : Int) (w : Str) (o : Int) (t : Str) (h5 : Fit x5.1) (h7 : Fit x7.1) (hw : w.length < 1000000) (e1 : getI ([t2, x9.1, x10.1, ([97] : Str)] : List Str) v = some w) (e2 : getI ([t3, x11.1, 127, 0] : List Int) v = some o) (e3 : getI ([t6, x13.1, [], t6] : List Str) v = some t) : ∀ j : Nat, j ≤ 2 → M_law15_DataAll_l2 c1 t2 t3 t4 t5 t6 t7 x5 x7 x9 x10 x11 x12 x13 v fuel (j : Int) = c1 (w64 (v + 1)) := by
  refine up_fuel (Q := fun f j => M_law15_DataAll_l2 c1 t2 t3 t4 t5 t6 t7 x5 x7 x9 x10 x11 x12 x13 v f (j : Int) = c1 (w64 (v + 1))) 2 (by omega) ?_ ?_
  · intro f
    rw [M_law15_DataAll_l2, decide_eq_false (by omega), cond_false]
    simp only [e3, bind_some', dpart_eq, rpart_eq, dparts_eq, rcount_eq]
    cases decide ((t.length : Int) ≤ 128) with
    | false => simp [gd_false]
    | true => simp [gd_true]
  · intro f j hj ih
    obtain ⟨z, ez, m⟩ := getn (l := [x5.1, x7.1]) rfl hj
    have hz : Fit z := by
      simp only [List.mem_cons, List.not_mem_nil, or_false] at m
      rcases m with rfl | rfl
      · exact h5
      · exact h7
    have l3 : ∀ c2, M_law15_DataAll_l3 c1 c2 t2 t3 t4 t5 t6 t7 x5 x7 x9 x10 x11 x12 x13 v (j : Int) z fuel 0 = c2 (w64 ((j : Int) + 1)) := fun c2 => da_l3 t2 t3 t4 t5 t6 t7 x5 x7 x9 x10 x11 x12 x13 c1 c2 v (j : Int) z w o hz hw e1 e2 0 (Nat.zero_le _)
    rw [M_law15_DataAll_l2, decide_eq_true (by omega), cond_true, ez, bind_some', l3, w64_succ (by omega)]
    exact ih
theorem da_l1 (h5 : SetOk x5.1) (h7 : Fit x7.1) (hw : ∀ w ∈ ([t2, x9.1, x10.1, ([97] : Str)] : List Str), w.length < 1000000) (ht : ∀ t ∈ ([t6, x13.1, [], t6] : List Str), t.length ≤ 1000) : ∀ j : Nat, j ≤ 4 → M_law15_DataAll_l1 t2 t3 t4 t5 t6 t7 x5 x7 x9 x10 x11 x12 x13 fuel (j : Int) = some true := by
  have hf := fit_ok h5
  have hl : x5.1.length ≤ 1000 := by rw [h5.len]; omega
  refine up_fuel (Q := fun f j => M_law15_DataAll_l1 t2 t3 t4 t5 t6 t7 x5 x7 x9 x10 x11 x12 x13 f (j : Int) = some true) 4 (by omega) ?_ ?_
  · intro f
    rw [M_law15_DataAll_l1, decide_eq_false (by omega), cond_false]
  · intro f j hj ih
    obtain ⟨w, e1, m1⟩ := getn (l := ([t2, x9.1, x10.1, ([97] : Str)] : List Str)) rfl hj
    obtain ⟨o, e2, _⟩ := getn (l := ([t3, x11.1, 127, 0] : List Int)) rfl hj
    obtain ⟨t, e3, m3⟩ := getn (l := ([t6, x13.1, [], t6] : List Str)) rfl hj
    obtain ⟨n, e4, _⟩ := getn (l := ([t5, x12.1, 0, 129] : List Int)) rfl hj
    have w1 := hw w m1
    have b1 := ht t m3
    have l2 : ∀ c1, M_law15_DataAll_l2 c1 t2 t3 t4 t5 t6 t7 x5 x7 x9 x10 x11 x12 x13 (j : Int) fuel 0 = c1 (w64 ((j : Int) + 1)) := fun c1 => da_l2 t2 t3 t4 t5 t6 t7 x5 x7 x9 x10 x11 x12 x13 c1 (j : Int) w o t hf h7 w1 e1 e2 e3 0 (Nat.zero_le _)
    rw [M_law15_DataAll_l1, decide_eq_true (by omega), cond_true]
    simp only [e1, e2, e3, e4, bind_some', dwrite_eq hf w o t w1 b1, rwrite11_eq x5.1 w o t hl hf.l1 w1 (fun i _ _ => by have := hf.body i; omega), dcut_eq hf w n w1, rcut_eq x5.1 w n hl hf.l1 w1, bne_self_eq_false, bFF, gd_true, same8 (write_ok h5 w o t), same8 (cut_ok h5 w n), Bool.not_true, Bool.or_self, cond_false]
    rw [l2, w64_succ (by omega)]
    exact ih
end
theorem law_DataAll (t0 t1 : List UInt8) (t2 : Str) (t3 t4 t5 : Int) (t6 : Str) (t7 : Int) : M_law15_DataAll t0 t1 t2 t3 t4 t5 t6 t7 = some true := by
  unfold M_law15_DataAll
  rw [begun15z, bind_some', Bool.not_true, cond_false]
  cases hc : (((decide ((t0.length : Int) > 60) || decide ((t1.length : Int) > 6)) || decide ((t2.length : Int) > 80)) || decide ((t6.length : Int) > 140)) with
  | true => rfl
  | false =>
    simp only [Bool.or_eq_false_iff, decide_eq_false_iff_not] at hc
    obtain ⟨s, p, e1, hs, _⟩ := set_made _ (wf_made t0 (by omega)) 25 (by omega)
    have e1' : M_made_Picks_Set ⟨t0, 0⟩ 25 = some (s, p) := e1
    obtain ⟨t, p2, e2, ht, _⟩ := torn_made _ (wf_made t0 (by omega)) 15 (by omega)
    have e2' : M_made_Picks_Torn ⟨t0, 0⟩ 15 = some (t, p2) := e2
    obtain ⟨a, q1, e3, w1, m1⟩ := path_ok _ (wf_made t1 (by omega))
    obtain ⟨b, q2, e4, w2, m2⟩ := path_ok q1 w1
    obtain ⟨n1, q3, e5, w3, _⟩ := num_ok q2 w2 130 (by omega)
    obtain ⟨n2, q4, e6, w4, _⟩ := num_ok q3 w3 130 (by omega)
    obtain ⟨x, q5, e7, w5, hx⟩ := text_ok q4 w4
    have k1 := ways15_len m1
    have k2 := ways15_len m2
    rw [cond_false, M_made_Made, bind_some', e1', bind_some', bind_some', e2', bind_some', M_made_Made, bind_some', e3, bind_some', e4, bind_some', e5, bind_some', e6, bind_some', e7, bind_some']
    refine da_l1 t2 t3 t4 t5 t6 t7 _ _ _ _ _ _ _ hs (fit_torn ht) (fun w hw => ?_) (fun w hw => ?_) 0 (Nat.zero_le _)
    · simp only [List.mem_cons, List.not_mem_nil, or_false] at hw
      rcases hw with rfl | rfl | rfl | rfl <;> first | omega | (simp only; omega) | decide
    · simp only [List.mem_cons, List.not_mem_nil, or_false] at hw
      rcases hw with rfl | rfl | rfl | rfl <;> first | omega | (simp only; omega) | decide
end Go.Proofs
