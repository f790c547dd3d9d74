/- Pure models of functions of the program, and that its code does what they say: palimpref1 SameUbers. Written by a program. -/
import Derived.Test.YtmhfodjiefednaaR7B
set_option maxRecDepth 20000
set_option maxHeartbeats 4000000
namespace Go.Proofs
open Go Go.Fhl
set_option linter.unusedVariables false
set_option linter.unusedSimpArgs false
noncomputable def M_ref1_SameUbers_l1 (t0 : (List G_api_Uber)) (t1 : (List G_api_Uber)) : Nat → Int → Option Bool
  | 0, _ => none
  | n1 + 1, v2 =>
  cond (decide (v2 < (t0.length : Int))) (Option.bind (getI t0 v2) fun (x4 : G_api_Uber) => Option.bind (getI t1 v2) fun (x5 : G_api_Uber) => cond (!decide (x4 = x5)) (some false) ((M_ref1_SameUbers_l1 t0 t1 n1) (w64 (v2 + 1)))) (some true)
noncomputable def M_ref1_SameUbers (t0 : (List G_api_Uber)) (t1 : (List G_api_Uber)) : Option Bool :=
  cond ((t0.length : Int) != (t1.length : Int)) (some false) (M_ref1_SameUbers_l1 t0 t1 fuel 0)
theorem ok_ref1_SameUbers (t0 : (List G_api_Uber)) (t1 : (List G_api_Uber)) (r : Bool) (h : M_ref1_SameUbers t0 t1 = some r) : FFn Try.prog 26 [(SL 9 c_api_Uber t0), (SL 9 c_api_Uber t1)] (Bo r) := by
  refine FFn.of_body (n := 26) Try.func26 rfl Try.ntmps26 rfl rfl rfl rfl ?_
  show AWp _ _ _ ⟨26, 0, [(0, (SL 9 c_api_Uber t0)), (1, (SL 9 c_api_Uber t1))], [], ⟨0, []⟩⟩
  unfold M_ref1_SameUbers at h
  refine awp_seq ?_
  refine awp_region ?_
  refine arun_do rfl rfl rfl (ex_assign (eV (v := (Bo false)) rfl)) ?_
  refine arun_keepE [0, 1] 0 0 (st' := ⟨26, 0, [(0, (SL 9 c_api_Uber t0)), (1, (SL 9 c_api_Uber t1))], [], ⟨0, []⟩⟩) (by kernel_rfl) (by kernel_rfl) ?_
  show AWp _ _ _ _
  refine awp_seq ?_
  refine awp_seq ?_
  refine awp_region ?_
  refine arun_do rfl rfl rfl (ex_move (eV (v := (SL 9 c_api_Uber t0)) rfl)) ?_
  refine arun_do rfl rfl rfl (tx_lenD (xs := t0) ce_api_Uber Try.underlying54 rfl) ?_
  refine arun_do rfl rfl rfl (ex_move (eV (v := (SL 9 c_api_Uber t1)) rfl)) ?_
  refine arun_do rfl rfl rfl (tx_lenD (xs := t1) ce_api_Uber Try.underlying54 rfl) ?_
  refine arun_do rfl rfl rfl (ex_bin (vx := (I (t0.length : Int))) (vy := (I (t1.length : Int))) rfl rfl neqI_ok) ?_
  refine arun_keepE [0, 1, 10] 0 0 (st' := ⟨26, 0, [(0, (SL 9 c_api_Uber t0)), (1, (SL 9 c_api_Uber t1)), (10, (Bo ((t0.length : Int) != (t1.length : Int))))], [], ⟨0, []⟩⟩) (by kernel_rfl) (by kernel_rfl) ?_
  show AWp _ _ _ _
  rcases Bool.eq_false_or_eq_true ((t0.length : Int) != (t1.length : Int)) with hb1 | hb1
  · rw [condT hb1] at h
    refine awp_condT (boT hb1) ?_
    refine awp_seq ?_
    refine awp_region ?_
    refine arun_do rfl rfl rfl (ex_assign (eV (v := (Bo false)) rfl)) ?_
    refine arun_keepE [4] 0 0 (st' := ⟨26, 0, [(4, (Bo false))], [], ⟨0, []⟩⟩) (by kernel_rfl) (by kernel_rfl) ?_
    show AWp _ _ _ _
    refine awp_ret ?_
    cases h
    exact ares1 (rtmp rfl (eV rfl))
  · rw [condF hb1] at h
    refine awp_condF (boF hb1) ?_
    refine awp_skip ?_
    show AWp _ _ _ _
    refine awp_seq ?_
    refine awp_seq ?_
    refine awp_region ?_
    refine arun_do rfl rfl rfl (ex_assign (eV (v := (I 0)) rfl)) ?_
    refine arun_keepE [0, 1, 5] 0 0 (st' := ⟨26, 0, [(0, (SL 9 c_api_Uber t0)), (1, (SL 9 c_api_Uber t1)), (5, (I 0))], [], ⟨0, []⟩⟩) (by kernel_rfl) (by kernel_rfl) ?_
    show AWp _ _ _ _
    refine awp_block ?_
    refine awp_loop (fun n s => ∃ (v2 : Int), s = ⟨26, 0, [(0, (SL 9 c_api_Uber t0)), (1, (SL 9 c_api_Uber t1)), (5, (I v2))], [], ⟨0, []⟩⟩ ∧ M_ref1_SameUbers_l1 t0 t1 n v2 = some r) fuel (Exists.intro 0 (And.intro rfl h)) ?_
    rintro n s ⟨v2, rfl, h⟩ -
    cases n with
    | zero => cases h
    | succ n1 =>
      unfold M_ref1_SameUbers_l1 at h
      refine awp_seq ?_
      refine awp_seq ?_
      refine awp_region ?_
      refine arun_do rfl rfl rfl (ex_move (eV (v := (I v2)) rfl)) ?_
      refine arun_do rfl rfl rfl (ex_move (eV (v := (SL 9 c_api_Uber t0)) rfl)) ?_
      refine arun_do rfl rfl rfl (tx_lenD (xs := t0) ce_api_Uber Try.underlying54 rfl) ?_
      refine arun_do rfl rfl rfl (ex_bin (vx := (I v2)) (vy := (I (t0.length : Int))) rfl rfl lssI_ok) ?_
      refine arun_keepE [0, 1, 5, 14] 0 0 (st' := ⟨26, 0, [(0, (SL 9 c_api_Uber t0)), (1, (SL 9 c_api_Uber t1)), (5, (I v2)), (14, (Bo (decide (v2 < (t0.length : Int)))))], [], ⟨0, []⟩⟩) (by kernel_rfl) (by kernel_rfl) ?_
      show AWp _ _ _ _
      rcases Bool.eq_false_or_eq_true (decide (v2 < (t0.length : Int))) with hb3 | hb3
      · rw [condT hb3] at h
        refine awp_condT (boT hb3) ?_
        refine awp_skip ?_
        show AWp _ _ _ _
        refine awp_seq ?_
        refine awp_block ?_
        refine awp_seq ?_
        obtain ⟨x4, hx4, h⟩ := bindS h
        obtain ⟨x5, hx5, h⟩ := bindS h
        refine awp_kn [0, 1, 5, 25] 0 0 (st' := ⟨26, 0, [(0, (SL 9 c_api_Uber t0)), (1, (SL 9 c_api_Uber t1)), (5, (I v2)), (25, (Bo (!decide (x4 = x5))))], [], ⟨0, []⟩⟩) (awp_draw (T := [(SL 9 c_api_Uber t0), (I v2), (DP (c_api_Uber x4)), (Value.agg (c_api_Uber x4).toArray), (SL 9 c_api_Uber t1), (I v2), (DP (c_api_Uber x5)), (Value.agg (c_api_Uber x5).toArray), (Bo (!decide (x4 = x5)))]) (LH := [([], ⟨0, []⟩)]) (D := [⟨[(0, none)], [], [0], false⟩, ⟨[(5, none)], [], [0], false⟩, ⟨[(17, some 0), (18, some 1)], [0, 1], [0], false⟩, ⟨[(19, some 2)], [0, 1, 2], [0], false⟩, ⟨[(1, none)], [], [0], false⟩, ⟨[(5, none)], [], [0], false⟩, ⟨[(21, some 4), (22, some 5)], [4, 5], [0], false⟩, ⟨[(23, some 6)], [4, 5, 6], [0], false⟩, ⟨[(20, some 3), (24, some 7)], [0, 1, 2, 3, 4, 5, 6, 7], [0], false⟩]) (S := []) (plan := [0, 1, 2, 3, 4, 5, 6, 7, 8]) mo (by kernel_rfl) rfl rfl rfl (dcons (dstep1 (Tm := [(0, (SL 9 c_api_Uber t0))]) (L := []) (H := ⟨0, []⟩) rfl rfl rfl rfl rfl (astep_do rfl (ex_move (eV (v := (SL 9 c_api_Uber t0)) rfl)))) (dcons (dstep1 (Tm := [(5, (I v2))]) (L := []) (H := ⟨0, []⟩) rfl rfl rfl rfl rfl (astep_do rfl (ex_move (eV (v := (I v2)) rfl)))) (dcons (dstep1 (Tm := [(17, (SL 9 c_api_Uber t0)), (18, (I v2))]) (L := []) (H := ⟨0, []⟩) rfl rfl rfl rfl rfl (astep_do rfl (tx_idxD (c := c_api_Uber) (xs := t0) (i := v2) ce_api_Uber Try.underlying54 s_37 rfl rfl hx4))) (dcons (dstep1 (Tm := [(19, (DP (c_api_Uber x4)))]) (L := []) (H := ⟨0, []⟩) rfl rfl rfl rfl rfl (astep_do rfl (tx_ldDA (vs := (c_api_Uber x4)) Try.underlying37 rfl s_37 (by decide) rfl (Nat.le_of_ble_eq_true rfl) rfl))) (dcons (dstep1 (Tm := [(1, (SL 9 c_api_Uber t1))]) (L := []) (H := ⟨0, []⟩) rfl rfl rfl rfl rfl (astep_do rfl (ex_move (eV (v := (SL 9 c_api_Uber t1)) rfl)))) (dcons (dstep1 (Tm := [(5, (I v2))]) (L := []) (H := ⟨0, []⟩) rfl rfl rfl rfl rfl (astep_do rfl (ex_move (eV (v := (I v2)) rfl)))) (dcons (dstep1 (Tm := [(21, (SL 9 c_api_Uber t1)), (22, (I v2))]) (L := []) (H := ⟨0, []⟩) rfl rfl rfl rfl rfl (astep_do rfl (tx_idxD (c := c_api_Uber) (xs := t1) (i := v2) ce_api_Uber Try.underlying54 s_37 rfl rfl hx5))) (dcons (dstep1 (Tm := [(23, (DP (c_api_Uber x5)))]) (L := []) (H := ⟨0, []⟩) rfl rfl rfl rfl rfl (astep_do rfl (tx_ldDA (vs := (c_api_Uber x5)) Try.underlying37 rfl s_37 (by decide) rfl (Nat.le_of_ble_eq_true rfl) rfl))) (dcons (dstep1 (Tm := [(20, (Value.agg (c_api_Uber x4).toArray)), (24, (Value.agg (c_api_Uber x5).toArray))]) (L := []) (H := ⟨0, []⟩) rfl rfl rfl rfl rfl (astep_do rfl (ex_bin (vx := (Value.agg (c_api_Uber x4).toArray)) (vy := (Value.agg (c_api_Uber x5).toArray)) rfl rfl neq_37))) dnil))))))))) ⟨rfl, rfl⟩) (by kernel_rfl) (by kernel_rfl) ?_
        show AWp _ _ _ _
        rcases Bool.eq_false_or_eq_true (!decide (x4 = x5)) with hb6 | hb6
        · rw [condT hb6] at h
          refine awp_condT (boT hb6) ?_
          refine awp_seq ?_
          refine awp_region ?_
          refine arun_do rfl rfl rfl (ex_assign (eV (v := (Bo false)) rfl)) ?_
          refine arun_keepE [4] 0 0 (st' := ⟨26, 0, [(4, (Bo false))], [], ⟨0, []⟩⟩) (by kernel_rfl) (by kernel_rfl) ?_
          show AWp _ _ _ _
          refine awp_ret ?_
          cases h
          exact ares1 (rtmp rfl (eV rfl))
        · rw [condF hb6] at h
          refine awp_condF (boF hb6) ?_
          refine awp_skip ?_
          show AWp _ _ _ _
          refine awp_region ?_
          refine arun_do rfl rfl rfl (ex_move (eV (v := (I v2)) rfl)) ?_
          refine arun_do rfl rfl rfl (ex_bin (vx := (I v2)) (vy := (I 1)) rfl rfl addI_ok) ?_
          refine arun_do rfl rfl rfl (ex_assign (eV (v := (I (w64 (v2 + 1)))) rfl)) ?_
          refine arun_keepE [0, 1, 5] 0 0 (st' := ⟨26, 0, [(0, (SL 9 c_api_Uber t0)), (1, (SL 9 c_api_Uber t1)), (5, (I (w64 (v2 + 1))))], [], ⟨0, []⟩⟩) (by kernel_rfl) (by kernel_rfl) ?_
          exact Exists.intro n1 (And.intro (Nat.lt_succ_self _) (Exists.intro (w64 (v2 + 1)) (And.intro rfl h)))
      · rw [condF hb3] at h
        refine awp_condF (boF hb3) ?_
        refine awp_exit ?_
        show AWp _ _ _ _
        refine awp_seq ?_
        refine awp_region ?_
        refine arun_do rfl rfl rfl (ex_assign (eV (v := (Bo true)) rfl)) ?_
        refine arun_keepE [4] 0 0 (st' := ⟨26, 0, [(4, (Bo true))], [], ⟨0, []⟩⟩) (by kernel_rfl) (by kernel_rfl) ?_
        show AWp _ _ _ _
        refine awp_ret ?_
        cases h
        exact ares1 (rtmp rfl (eV rfl))

end Go.Proofs
