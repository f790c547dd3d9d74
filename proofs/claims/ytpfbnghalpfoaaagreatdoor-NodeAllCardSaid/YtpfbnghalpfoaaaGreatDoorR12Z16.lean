/- Pure models of functions of the program, and that its code does what they say: palimpref11 bad, palimpref11 broken, palimpref11 May, palimpref11 Same, palimpref1 SameInts. Written by a program. -/
import Derived.Test.YtpfbnghalpfoaaaGreatDoorR12Z1
import Derived.Test.YtpfbnghalpfoaaaGreatDoorR12Z15
import Derived.Test.YtpfbnghalpfoaaaGreatDoorR12ZB
set_option maxRecDepth 20000
set_option maxHeartbeats 4000000
namespace Go.Proofs
open Go Go.Fhl
set_option linter.unusedVariables false
set_option linter.unusedSimpArgs false
noncomputable def M_ref11_bad_l1 (t0 : (List G_api_Node)) : Nat → Int → Option Bool
  | 0, _ => none
  | n1 + 1, v1 =>
  cond (decide (v1 < (t0.length : Int))) (Option.bind (getI t0 v1) fun (x3 : G_api_Node) => cond (x3.Bad != 0) (some true) ((M_ref11_bad_l1 t0 n1) (w64 (v1 + 1)))) (some false)
noncomputable def M_ref11_bad (t0 : (List G_api_Node)) : Option Bool :=
  M_ref11_bad_l1 t0 fuel 0
theorem ok_ref11_bad (t0 : (List G_api_Node)) (r : Bool) (h : M_ref11_bad t0 = some r) : FFn Tryz.prog 47 [(SL 5 c_api_Node t0)] (Bo r) := by
  refine FFn.of_body (n := 16) Tryz.func47 rfl Tryz.ntmps47 rfl rfl rfl rfl ?_
  show AWp _ _ _ ⟨16, 0, [(0, (SL 5 c_api_Node t0))], [], ⟨0, []⟩⟩
  unfold M_ref11_bad at h
  refine awp_seq ?_
  refine awp_region ?_
  refine arun_do rfl rfl rfl (ex_assign (eV (v := (Bo false)) rfl)) ?_
  refine arun_keepE [0] 0 0 (st' := ⟨16, 0, [(0, (SL 5 c_api_Node t0))], [], ⟨0, []⟩⟩) (by kernel_rfl) (by kernel_rfl) ?_
  show AWp _ _ _ _
  refine awp_seq ?_
  refine awp_seq ?_
  refine awp_region ?_
  refine arun_do rfl rfl rfl (ex_assign (eV (v := (I 0)) rfl)) ?_
  refine arun_keepE [0, 3] 0 0 (st' := ⟨16, 0, [(0, (SL 5 c_api_Node t0)), (3, (I 0))], [], ⟨0, []⟩⟩) (by kernel_rfl) (by kernel_rfl) ?_
  show AWp _ _ _ _
  refine awp_block ?_
  refine awp_loop (fun n s => ∃ (v1 : Int), s = ⟨16, 0, [(0, (SL 5 c_api_Node t0)), (3, (I v1))], [], ⟨0, []⟩⟩ ∧ M_ref11_bad_l1 t0 n v1 = some r) fuel (Exists.intro 0 (And.intro rfl h)) ?_
  rintro n s ⟨v1, rfl, h⟩ -
  cases n with
  | zero => cases h
  | succ n1 =>
    unfold M_ref11_bad_l1 at h
    refine awp_seq ?_
    refine awp_seq ?_
    refine awp_region ?_
    refine arun_do rfl rfl rfl (ex_move (eV (v := (I v1)) rfl)) ?_
    refine arun_do rfl rfl rfl (ex_move (eV (v := (SL 5 c_api_Node t0)) rfl)) ?_
    refine arun_do rfl rfl rfl (tx_lenD (xs := t0) ce_api_Node Tryz.underlying25 rfl) ?_
    refine arun_do rfl rfl rfl (ex_bin (vx := (I v1)) (vy := (I (t0.length : Int))) rfl rfl lssI_ok) ?_
    refine arun_keepE [0, 3, 7] 0 0 (st' := ⟨16, 0, [(0, (SL 5 c_api_Node t0)), (3, (I v1)), (7, (Bo (decide (v1 < (t0.length : Int)))))], [], ⟨0, []⟩⟩) (by kernel_rfl) (by kernel_rfl) ?_
    show AWp _ _ _ _
    rcases Bool.eq_false_or_eq_true (decide (v1 < (t0.length : Int))) with hb2 | hb2
    · rw [condT hb2] at h
      refine awp_condT (boT hb2) ?_
      refine awp_skip ?_
      show AWp _ _ _ _
      refine awp_seq ?_
      refine awp_block ?_
      refine awp_seq ?_
      refine awp_region ?_
      refine arun_do rfl rfl rfl (ex_move (eV (v := (SL 5 c_api_Node t0)) rfl)) ?_
      refine arun_do rfl rfl rfl (ex_move (eV (v := (I v1)) rfl)) ?_
      obtain ⟨x3, hx3, h⟩ := bindS h
      refine arun_do rfl rfl rfl (tx_idxD (c := c_api_Node) (xs := t0) (i := v1) ce_api_Node Tryz.underlying25 s_49 rfl rfl hx3) ?_
      refine arun_do rfl rfl rfl (ex_fieldAddrD (vs := (List.drop 4 (c_api_Node x3))) Tryz.underlying49 rfl s_3 (by decide) rfl rfl) ?_
      refine arun_do rfl rfl rfl (tx_ldD1 (v := (I x3.Bad)) Tryz.underlying3 rfl rfl rfl) ?_
      refine arun_do rfl rfl rfl (ex_bin (vx := (I x3.Bad)) (vy := (I 0)) rfl rfl neqI_ok) ?_
      refine arun_keepE [0, 3, 15] 0 0 (st' := ⟨16, 0, [(0, (SL 5 c_api_Node t0)), (3, (I v1)), (15, (Bo (x3.Bad != 0)))], [], ⟨0, []⟩⟩) (by kernel_rfl) (by kernel_rfl) ?_
      show AWp _ _ _ _
      rcases Bool.eq_false_or_eq_true (x3.Bad != 0) with hb4 | hb4
      · rw [condT hb4] at h
        refine awp_condT (boT hb4) ?_
        refine awp_seq ?_
        refine awp_region ?_
        refine arun_do rfl rfl rfl (ex_assign (eV (v := (Bo true)) rfl)) ?_
        refine arun_keepE [2] 0 0 (st' := ⟨16, 0, [(2, (Bo true))], [], ⟨0, []⟩⟩) (by kernel_rfl) (by kernel_rfl) ?_
        show AWp _ _ _ _
        refine awp_ret ?_
        cases h
        exact ares1 (rtmp rfl (eV rfl))
      · rw [condF hb4] at h
        refine awp_condF (boF hb4) ?_
        refine awp_skip ?_
        show AWp _ _ _ _
        refine awp_region ?_
        refine arun_do rfl rfl rfl (ex_move (eV (v := (I v1)) rfl)) ?_
        refine arun_do rfl rfl rfl (ex_bin (vx := (I v1)) (vy := (I 1)) rfl rfl addI_ok) ?_
        refine arun_do rfl rfl rfl (ex_assign (eV (v := (I (w64 (v1 + 1)))) rfl)) ?_
        refine arun_keepE [0, 3] 0 0 (st' := ⟨16, 0, [(0, (SL 5 c_api_Node t0)), (3, (I (w64 (v1 + 1))))], [], ⟨0, []⟩⟩) (by kernel_rfl) (by kernel_rfl) ?_
        exact Exists.intro n1 (And.intro (Nat.lt_succ_self _) (Exists.intro (w64 (v1 + 1)) (And.intro rfl h)))
    · rw [condF hb2] at h
      refine awp_condF (boF hb2) ?_
      refine awp_exit ?_
      show AWp _ _ _ _
      refine awp_seq ?_
      refine awp_region ?_
      refine arun_do rfl rfl rfl (ex_assign (eV (v := (Bo false)) rfl)) ?_
      refine arun_keepE [2] 0 0 (st' := ⟨16, 0, [(2, (Bo false))], [], ⟨0, []⟩⟩) (by kernel_rfl) (by kernel_rfl) ?_
      show AWp _ _ _ _
      refine awp_ret ?_
      cases h
      exact ares1 (rtmp rfl (eV rfl))

noncomputable def M_ref11_broken (t0 : (List G_api_Node)) : Option Bool :=
  Option.bind (M_ref11_lost t0) fun (x1 : Bool) => Option.bind (gd (x1 == false) (M_ref11_bad t0)) fun (x2 : Bool) => some (x1 || x2)
theorem ok_ref11_broken (t0 : (List G_api_Node)) (r : Bool) (h : M_ref11_broken t0 = some r) : FFn Tryz.prog 28 [(SL 5 c_api_Node t0)] (Bo r) := by
  refine FFn.of_body (n := 9) Tryz.func28 rfl Tryz.ntmps28 rfl rfl rfl rfl ?_
  show AWp _ _ _ ⟨9, 0, [(0, (SL 5 c_api_Node t0))], [], ⟨0, []⟩⟩
  unfold M_ref11_broken at h
  refine awp_seq ?_
  refine awp_region ?_
  refine arun_do rfl rfl rfl (ex_assign (eV (v := (Bo false)) rfl)) ?_
  refine arun_keepE [0] 0 0 (st' := ⟨9, 0, [(0, (SL 5 c_api_Node t0))], [], ⟨0, []⟩⟩) (by kernel_rfl) (by kernel_rfl) ?_
  show AWp _ _ _ _
  refine awp_seq ?_
  refine awp_region ?_
  refine arun_do rfl rfl rfl (ex_move (eV (v := (SL 5 c_api_Node t0)) rfl)) ?_
  obtain ⟨x1, hx1, h⟩ := bindS h
  refine arun_do rfl rfl rfl (ex_call0 (vs := [(SL 5 c_api_Node t0)]) (v := (Bo x1)) rfl en_46 (cargs (evs rfl evs_nil)) rfl (ok_ref11_lost t0 x1 hx1) rfl) ?_
  refine arun_do rfl rfl rfl (ex_move (eV (v := (Bo x1)) rfl)) ?_
  refine arun_guard (v := (SL 5 c_api_Node t0)) (x1 == false) rfl rfl rfl (fun hc => ex_move (eV (v := (SL 5 c_api_Node t0)) rfl)) ?_
  obtain ⟨x2, hx2, h⟩ := bindS h
  refine arun_guard (v := (Bo x2)) (x1 == false) rfl rfl rfl (fun hc => ex_call0 (vs := [(SL 5 c_api_Node t0)]) (v := (Bo x2)) rfl en_47 (cargs (evs (cond_of hc) evs_nil)) rfl (ok_ref11_bad t0 x2 (gd_of hc hx2)) rfl) ?_
  refine arun_do rfl rfl rfl (ex_pick rfl pkOr) ?_
  refine arun_do rfl rfl rfl (ex_assign (eV (v := (Bo (x1 || x2))) rfl)) ?_
  refine arun_keepE [2] 0 0 (st' := ⟨9, 0, [(2, (Bo (x1 || x2)))], [], ⟨0, []⟩⟩) (by kernel_rfl) (by kernel_rfl) ?_
  show AWp _ _ _ _
  refine awp_ret ?_
  cases h
  exact ares1 (rtmp rfl (eV rfl))

noncomputable def M_ref11_May (t0 : (List G_api_Node)) : Option Bool :=
  Option.bind (M_ref11_Torn t0) fun (x1 : Bool) => Option.bind (gd (x1 == true) (M_ref11_broken t0)) fun (x2 : Bool) => some (x1 && (!x2))
theorem ok_ref11_May (t0 : (List G_api_Node)) (r : Bool) (h : M_ref11_May t0 = some r) : FFn Tryz.prog 10 [(SL 5 c_api_Node t0)] (Bo r) := by
  refine FFn.of_body (n := 10) Tryz.func10 rfl Tryz.ntmps10 rfl rfl rfl rfl ?_
  show AWp _ _ _ ⟨10, 0, [(0, (SL 5 c_api_Node t0))], [], ⟨0, []⟩⟩
  unfold M_ref11_May at h
  refine awp_seq ?_
  refine awp_region ?_
  refine arun_do rfl rfl rfl (ex_assign (eV (v := (Bo false)) rfl)) ?_
  refine arun_keepE [0] 0 0 (st' := ⟨10, 0, [(0, (SL 5 c_api_Node t0))], [], ⟨0, []⟩⟩) (by kernel_rfl) (by kernel_rfl) ?_
  show AWp _ _ _ _
  refine awp_seq ?_
  refine awp_region ?_
  refine arun_do rfl rfl rfl (ex_move (eV (v := (SL 5 c_api_Node t0)) rfl)) ?_
  obtain ⟨x1, hx1, h⟩ := bindS h
  refine arun_do rfl rfl rfl (ex_call0 (vs := [(SL 5 c_api_Node t0)]) (v := (Bo x1)) rfl en_12 (cargs (evs rfl evs_nil)) rfl (ok_ref11_Torn t0 x1 hx1) rfl) ?_
  refine arun_do rfl rfl rfl (ex_move (eV (v := (Bo x1)) rfl)) ?_
  refine arun_guard (v := (SL 5 c_api_Node t0)) (x1 == true) rfl rfl rfl (fun hc => ex_move (eV (v := (SL 5 c_api_Node t0)) rfl)) ?_
  obtain ⟨x2, hx2, h⟩ := bindS h
  refine arun_guard (v := (Bo x2)) (x1 == true) rfl rfl rfl (fun hc => ex_call0 (vs := [(SL 5 c_api_Node t0)]) (v := (Bo x2)) rfl en_28 (cargs (evs (cond_of hc) evs_nil)) rfl (ok_ref11_broken t0 x2 (gd_of hc hx2)) rfl) ?_
  refine arun_guard (v := (Bo (!x2))) (x1 == true) rfl rfl rfl (fun hc => ex_un (vx := (Bo x2)) (cond_of hc) notB_ok) ?_
  refine arun_do rfl rfl rfl (ex_pick rfl pkAnd) ?_
  refine arun_do rfl rfl rfl (ex_assign (eV (v := (Bo (x1 && (!x2)))) rfl)) ?_
  refine arun_keepE [2] 0 0 (st' := ⟨10, 0, [(2, (Bo (x1 && (!x2))))], [], ⟨0, []⟩⟩) (by kernel_rfl) (by kernel_rfl) ?_
  show AWp _ _ _ _
  refine awp_ret ?_
  cases h
  exact ares1 (rtmp rfl (eV rfl))

noncomputable def M_ref11_Same_l1 (t0 : (List G_api_Node)) (t1 : (List G_api_Node)) : Nat → Int → Option Bool
  | 0, _ => none
  | n1 + 1, v2 =>
  cond (decide (v2 < (t0.length : Int))) (Option.bind (getI t0 v2) fun (x4 : G_api_Node) => Option.bind (getI t1 v2) fun (x5 : G_api_Node) => cond (!decide (x4 = x5)) (some false) ((M_ref11_Same_l1 t0 t1 n1) (w64 (v2 + 1)))) (some true)
noncomputable def M_ref11_Same (t0 : (List G_api_Node)) (t1 : (List G_api_Node)) : Option Bool :=
  cond ((t0.length : Int) != (t1.length : Int)) (some false) (M_ref11_Same_l1 t0 t1 fuel 0)
theorem ok_ref11_Same (t0 : (List G_api_Node)) (t1 : (List G_api_Node)) (r : Bool) (h : M_ref11_Same t0 t1 = some r) : FFn Tryz.prog 14 [(SL 5 c_api_Node t0), (SL 5 c_api_Node t1)] (Bo r) := by
  refine FFn.of_body (n := 26) Tryz.func14 rfl Tryz.ntmps14 rfl rfl rfl rfl ?_
  show AWp _ _ _ ⟨26, 0, [(0, (SL 5 c_api_Node t0)), (1, (SL 5 c_api_Node t1))], [], ⟨0, []⟩⟩
  unfold M_ref11_Same at h
  refine awp_seq ?_
  refine awp_region ?_
  refine arun_do rfl rfl rfl (ex_assign (eV (v := (Bo false)) rfl)) ?_
  refine arun_keepE [0, 1] 0 0 (st' := ⟨26, 0, [(0, (SL 5 c_api_Node t0)), (1, (SL 5 c_api_Node t1))], [], ⟨0, []⟩⟩) (by kernel_rfl) (by kernel_rfl) ?_
  show AWp _ _ _ _
  refine awp_seq ?_
  refine awp_seq ?_
  refine awp_region ?_
  refine arun_do rfl rfl rfl (ex_move (eV (v := (SL 5 c_api_Node t0)) rfl)) ?_
  refine arun_do rfl rfl rfl (tx_lenD (xs := t0) ce_api_Node Tryz.underlying25 rfl) ?_
  refine arun_do rfl rfl rfl (ex_move (eV (v := (SL 5 c_api_Node t1)) rfl)) ?_
  refine arun_do rfl rfl rfl (tx_lenD (xs := t1) ce_api_Node Tryz.underlying25 rfl) ?_
  refine arun_do rfl rfl rfl (ex_bin (vx := (I (t0.length : Int))) (vy := (I (t1.length : Int))) rfl rfl neqI_ok) ?_
  refine arun_keepE [0, 1, 10] 0 0 (st' := ⟨26, 0, [(0, (SL 5 c_api_Node t0)), (1, (SL 5 c_api_Node t1)), (10, (Bo ((t0.length : Int) != (t1.length : Int))))], [], ⟨0, []⟩⟩) (by kernel_rfl) (by kernel_rfl) ?_
  show AWp _ _ _ _
  rcases Bool.eq_false_or_eq_true ((t0.length : Int) != (t1.length : Int)) with hb1 | hb1
  · rw [condT hb1] at h
    refine awp_condT (boT hb1) ?_
    refine awp_seq ?_
    refine awp_region ?_
    refine arun_do rfl rfl rfl (ex_assign (eV (v := (Bo false)) rfl)) ?_
    refine arun_keepE [4] 0 0 (st' := ⟨26, 0, [(4, (Bo false))], [], ⟨0, []⟩⟩) (by kernel_rfl) (by kernel_rfl) ?_
    show AWp _ _ _ _
    refine awp_ret ?_
    cases h
    exact ares1 (rtmp rfl (eV rfl))
  · rw [condF hb1] at h
    refine awp_condF (boF hb1) ?_
    refine awp_skip ?_
    show AWp _ _ _ _
    refine awp_seq ?_
    refine awp_seq ?_
    refine awp_region ?_
    refine arun_do rfl rfl rfl (ex_assign (eV (v := (I 0)) rfl)) ?_
    refine arun_keepE [0, 1, 5] 0 0 (st' := ⟨26, 0, [(0, (SL 5 c_api_Node t0)), (1, (SL 5 c_api_Node t1)), (5, (I 0))], [], ⟨0, []⟩⟩) (by kernel_rfl) (by kernel_rfl) ?_
    show AWp _ _ _ _
    refine awp_block ?_
    refine awp_loop (fun n s => ∃ (v2 : Int), s = ⟨26, 0, [(0, (SL 5 c_api_Node t0)), (1, (SL 5 c_api_Node t1)), (5, (I v2))], [], ⟨0, []⟩⟩ ∧ M_ref11_Same_l1 t0 t1 n v2 = some r) fuel (Exists.intro 0 (And.intro rfl h)) ?_
    rintro n s ⟨v2, rfl, h⟩ -
    cases n with
    | zero => cases h
    | succ n1 =>
      unfold M_ref11_Same_l1 at h
      refine awp_seq ?_
      refine awp_seq ?_
      refine awp_region ?_
      refine arun_do rfl rfl rfl (ex_move (eV (v := (I v2)) rfl)) ?_
      refine arun_do rfl rfl rfl (ex_move (eV (v := (SL 5 c_api_Node t0)) rfl)) ?_
      refine arun_do rfl rfl rfl (tx_lenD (xs := t0) ce_api_Node Tryz.underlying25 rfl) ?_
      refine arun_do rfl rfl rfl (ex_bin (vx := (I v2)) (vy := (I (t0.length : Int))) rfl rfl lssI_ok) ?_
      refine arun_keepE [0, 1, 5, 14] 0 0 (st' := ⟨26, 0, [(0, (SL 5 c_api_Node t0)), (1, (SL 5 c_api_Node t1)), (5, (I v2)), (14, (Bo (decide (v2 < (t0.length : Int)))))], [], ⟨0, []⟩⟩) (by kernel_rfl) (by kernel_rfl) ?_
      show AWp _ _ _ _
      rcases Bool.eq_false_or_eq_true (decide (v2 < (t0.length : Int))) with hb3 | hb3
      · rw [condT hb3] at h
        refine awp_condT (boT hb3) ?_
        refine awp_skip ?_
        show AWp _ _ _ _
        refine awp_seq ?_
        refine awp_block ?_
        refine awp_seq ?_
        obtain ⟨x4, hx4, h⟩ := bindS h
        obtain ⟨x5, hx5, h⟩ := bindS h
        refine awp_kn [0, 1, 5, 25] 0 0 (st' := ⟨26, 0, [(0, (SL 5 c_api_Node t0)), (1, (SL 5 c_api_Node t1)), (5, (I v2)), (25, (Bo (!decide (x4 = x5))))], [], ⟨0, []⟩⟩) (awp_draw (T := [(SL 5 c_api_Node t0), (I v2), (DP (c_api_Node x4)), (Value.agg (c_api_Node x4).toArray), (SL 5 c_api_Node t1), (I v2), (DP (c_api_Node x5)), (Value.agg (c_api_Node x5).toArray), (Bo (!decide (x4 = x5)))]) (LH := [([], ⟨0, []⟩)]) (D := [⟨[(0, none)], [], [0], false⟩, ⟨[(5, none)], [], [0], false⟩, ⟨[(17, some 0), (18, some 1)], [0, 1], [0], false⟩, ⟨[(19, some 2)], [0, 1, 2], [0], false⟩, ⟨[(1, none)], [], [0], false⟩, ⟨[(5, none)], [], [0], false⟩, ⟨[(21, some 4), (22, some 5)], [4, 5], [0], false⟩, ⟨[(23, some 6)], [4, 5, 6], [0], false⟩, ⟨[(20, some 3), (24, some 7)], [0, 1, 2, 3, 4, 5, 6, 7], [0], false⟩]) (S := []) (plan := [0, 1, 2, 3, 4, 5, 6, 7, 8]) mo (by kernel_rfl) rfl rfl rfl (dcons (dstep1 (Tm := [(0, (SL 5 c_api_Node t0))]) (L := []) (H := ⟨0, []⟩) rfl rfl rfl rfl rfl (astep_do rfl (ex_move (eV (v := (SL 5 c_api_Node t0)) rfl)))) (dcons (dstep1 (Tm := [(5, (I v2))]) (L := []) (H := ⟨0, []⟩) rfl rfl rfl rfl rfl (astep_do rfl (ex_move (eV (v := (I v2)) rfl)))) (dcons (dstep1 (Tm := [(17, (SL 5 c_api_Node t0)), (18, (I v2))]) (L := []) (H := ⟨0, []⟩) rfl rfl rfl rfl rfl (astep_do rfl (tx_idxD (c := c_api_Node) (xs := t0) (i := v2) ce_api_Node Tryz.underlying25 s_49 rfl rfl hx4))) (dcons (dstep1 (Tm := [(19, (DP (c_api_Node x4)))]) (L := []) (H := ⟨0, []⟩) rfl rfl rfl rfl rfl (astep_do rfl (tx_ldDA (vs := (c_api_Node x4)) Tryz.underlying49 rfl s_49 (by decide) rfl (Nat.le_of_ble_eq_true rfl) rfl))) (dcons (dstep1 (Tm := [(1, (SL 5 c_api_Node t1))]) (L := []) (H := ⟨0, []⟩) rfl rfl rfl rfl rfl (astep_do rfl (ex_move (eV (v := (SL 5 c_api_Node t1)) rfl)))) (dcons (dstep1 (Tm := [(5, (I v2))]) (L := []) (H := ⟨0, []⟩) rfl rfl rfl rfl rfl (astep_do rfl (ex_move (eV (v := (I v2)) rfl)))) (dcons (dstep1 (Tm := [(21, (SL 5 c_api_Node t1)), (22, (I v2))]) (L := []) (H := ⟨0, []⟩) rfl rfl rfl rfl rfl (astep_do rfl (tx_idxD (c := c_api_Node) (xs := t1) (i := v2) ce_api_Node Tryz.underlying25 s_49 rfl rfl hx5))) (dcons (dstep1 (Tm := [(23, (DP (c_api_Node x5)))]) (L := []) (H := ⟨0, []⟩) rfl rfl rfl rfl rfl (astep_do rfl (tx_ldDA (vs := (c_api_Node x5)) Tryz.underlying49 rfl s_49 (by decide) rfl (Nat.le_of_ble_eq_true rfl) rfl))) (dcons (dstep1 (Tm := [(20, (Value.agg (c_api_Node x4).toArray)), (24, (Value.agg (c_api_Node x5).toArray))]) (L := []) (H := ⟨0, []⟩) rfl rfl rfl rfl rfl (astep_do rfl (ex_bin (vx := (Value.agg (c_api_Node x4).toArray)) (vy := (Value.agg (c_api_Node x5).toArray)) rfl rfl neq_49))) dnil))))))))) ⟨rfl, rfl⟩) (by kernel_rfl) (by kernel_rfl) ?_
        show AWp _ _ _ _
        rcases Bool.eq_false_or_eq_true (!decide (x4 = x5)) with hb6 | hb6
        · rw [condT hb6] at h
          refine awp_condT (boT hb6) ?_
          refine awp_seq ?_
          refine awp_region ?_
          refine arun_do rfl rfl rfl (ex_assign (eV (v := (Bo false)) rfl)) ?_
          refine arun_keepE [4] 0 0 (st' := ⟨26, 0, [(4, (Bo false))], [], ⟨0, []⟩⟩) (by kernel_rfl) (by kernel_rfl) ?_
          show AWp _ _ _ _
          refine awp_ret ?_
          cases h
          exact ares1 (rtmp rfl (eV rfl))
        · rw [condF hb6] at h
          refine awp_condF (boF hb6) ?_
          refine awp_skip ?_
          show AWp _ _ _ _
          refine awp_region ?_
          refine arun_do rfl rfl rfl (ex_move (eV (v := (I v2)) rfl)) ?_
          refine arun_do rfl rfl rfl (ex_bin (vx := (I v2)) (vy := (I 1)) rfl rfl addI_ok) ?_
          refine arun_do rfl rfl rfl (ex_assign (eV (v := (I (w64 (v2 + 1)))) rfl)) ?_
          refine arun_keepE [0, 1, 5] 0 0 (st' := ⟨26, 0, [(0, (SL 5 c_api_Node t0)), (1, (SL 5 c_api_Node t1)), (5, (I (w64 (v2 + 1))))], [], ⟨0, []⟩⟩) (by kernel_rfl) (by kernel_rfl) ?_
          exact Exists.intro n1 (And.intro (Nat.lt_succ_self _) (Exists.intro (w64 (v2 + 1)) (And.intro rfl h)))
      · rw [condF hb3] at h
        refine awp_condF (boF hb3) ?_
        refine awp_exit ?_
        show AWp _ _ _ _
        refine awp_seq ?_
        refine awp_region ?_
        refine arun_do rfl rfl rfl (ex_assign (eV (v := (Bo true)) rfl)) ?_
        refine arun_keepE [4] 0 0 (st' := ⟨26, 0, [(4, (Bo true))], [], ⟨0, []⟩⟩) (by kernel_rfl) (by kernel_rfl) ?_
        show AWp _ _ _ _
        refine awp_ret ?_
        cases h
        exact ares1 (rtmp rfl (eV rfl))

noncomputable def M_ref1_SameInts_l1 (t0 : (List Int)) (t1 : (List Int)) : Nat → Int → Option Bool
  | 0, _ => none
  | n1 + 1, v2 =>
  cond (decide (v2 < (t0.length : Int))) (Option.bind (getI t0 v2) fun (x4 : Int) => Option.bind (getI t1 v2) fun (x5 : Int) => cond (x4 != x5) (some false) ((M_ref1_SameInts_l1 t0 t1 n1) (w64 (v2 + 1)))) (some true)
noncomputable def M_ref1_SameInts (t0 : (List Int)) (t1 : (List Int)) : Option Bool :=
  cond ((t0.length : Int) != (t1.length : Int)) (some false) (M_ref1_SameInts_l1 t0 t1 fuel 0)
theorem ok_ref1_SameInts (t0 : (List Int)) (t1 : (List Int)) (r : Bool) (h : M_ref1_SameInts t0 t1 = some r) : FFn Tryz.prog 17 [(SL 1 cI t0), (SL 1 cI t1)] (Bo r) := by
  refine FFn.of_body (n := 26) Tryz.func17 rfl Tryz.ntmps17 rfl rfl rfl rfl ?_
  show AWp _ _ _ ⟨26, 0, [(0, (SL 1 cI t0)), (1, (SL 1 cI t1))], [], ⟨0, []⟩⟩
  unfold M_ref1_SameInts at h
  refine awp_seq ?_
  refine awp_region ?_
  refine arun_do rfl rfl rfl (ex_assign (eV (v := (Bo false)) rfl)) ?_
  refine arun_keepE [0, 1] 0 0 (st' := ⟨26, 0, [(0, (SL 1 cI t0)), (1, (SL 1 cI t1))], [], ⟨0, []⟩⟩) (by kernel_rfl) (by kernel_rfl) ?_
  show AWp _ _ _ _
  refine awp_seq ?_
  refine awp_seq ?_
  refine awp_region ?_
  refine arun_do rfl rfl rfl (ex_move (eV (v := (SL 1 cI t0)) rfl)) ?_
  refine arun_do rfl rfl rfl (tx_lenD (xs := t0) ceI Tryz.underlying36 rfl) ?_
  refine arun_do rfl rfl rfl (ex_move (eV (v := (SL 1 cI t1)) rfl)) ?_
  refine arun_do rfl rfl rfl (tx_lenD (xs := t1) ceI Tryz.underlying36 rfl) ?_
  refine arun_do rfl rfl rfl (ex_bin (vx := (I (t0.length : Int))) (vy := (I (t1.length : Int))) rfl rfl neqI_ok) ?_
  refine arun_keepE [0, 1, 10] 0 0 (st' := ⟨26, 0, [(0, (SL 1 cI t0)), (1, (SL 1 cI t1)), (10, (Bo ((t0.length : Int) != (t1.length : Int))))], [], ⟨0, []⟩⟩) (by kernel_rfl) (by kernel_rfl) ?_
  show AWp _ _ _ _
  rcases Bool.eq_false_or_eq_true ((t0.length : Int) != (t1.length : Int)) with hb1 | hb1
  · rw [condT hb1] at h
    refine awp_condT (boT hb1) ?_
    refine awp_seq ?_
    refine awp_region ?_
    refine arun_do rfl rfl rfl (ex_assign (eV (v := (Bo false)) rfl)) ?_
    refine arun_keepE [4] 0 0 (st' := ⟨26, 0, [(4, (Bo false))], [], ⟨0, []⟩⟩) (by kernel_rfl) (by kernel_rfl) ?_
    show AWp _ _ _ _
    refine awp_ret ?_
    cases h
    exact ares1 (rtmp rfl (eV rfl))
  · rw [condF hb1] at h
    refine awp_condF (boF hb1) ?_
    refine awp_skip ?_
    show AWp _ _ _ _
    refine awp_seq ?_
    refine awp_seq ?_
    refine awp_region ?_
    refine arun_do rfl rfl rfl (ex_assign (eV (v := (I 0)) rfl)) ?_
    refine arun_keepE [0, 1, 5] 0 0 (st' := ⟨26, 0, [(0, (SL 1 cI t0)), (1, (SL 1 cI t1)), (5, (I 0))], [], ⟨0, []⟩⟩) (by kernel_rfl) (by kernel_rfl) ?_
    show AWp _ _ _ _
    refine awp_block ?_
    refine awp_loop (fun n s => ∃ (v2 : Int), s = ⟨26, 0, [(0, (SL 1 cI t0)), (1, (SL 1 cI t1)), (5, (I v2))], [], ⟨0, []⟩⟩ ∧ M_ref1_SameInts_l1 t0 t1 n v2 = some r) fuel (Exists.intro 0 (And.intro rfl h)) ?_
    rintro n s ⟨v2, rfl, h⟩ -
    cases n with
    | zero => cases h
    | succ n1 =>
      unfold M_ref1_SameInts_l1 at h
      refine awp_seq ?_
      refine awp_seq ?_
      refine awp_region ?_
      refine arun_do rfl rfl rfl (ex_move (eV (v := (I v2)) rfl)) ?_
      refine arun_do rfl rfl rfl (ex_move (eV (v := (SL 1 cI t0)) rfl)) ?_
      refine arun_do rfl rfl rfl (tx_lenD (xs := t0) ceI Tryz.underlying36 rfl) ?_
      refine arun_do rfl rfl rfl (ex_bin (vx := (I v2)) (vy := (I (t0.length : Int))) rfl rfl lssI_ok) ?_
      refine arun_keepE [0, 1, 5, 14] 0 0 (st' := ⟨26, 0, [(0, (SL 1 cI t0)), (1, (SL 1 cI t1)), (5, (I v2)), (14, (Bo (decide (v2 < (t0.length : Int)))))], [], ⟨0, []⟩⟩) (by kernel_rfl) (by kernel_rfl) ?_
      show AWp _ _ _ _
      rcases Bool.eq_false_or_eq_true (decide (v2 < (t0.length : Int))) with hb3 | hb3
      · rw [condT hb3] at h
        refine awp_condT (boT hb3) ?_
        refine awp_skip ?_
        show AWp _ _ _ _
        refine awp_seq ?_
        refine awp_block ?_
        refine awp_seq ?_
        obtain ⟨x4, hx4, h⟩ := bindS h
        obtain ⟨x5, hx5, h⟩ := bindS h
        refine awp_kn [0, 1, 5, 25] 0 0 (st' := ⟨26, 0, [(0, (SL 1 cI t0)), (1, (SL 1 cI t1)), (5, (I v2)), (25, (Bo (x4 != x5)))], [], ⟨0, []⟩⟩) (awp_draw (T := [(SL 1 cI t0), (I v2), (DP (cI x4)), (I x4), (SL 1 cI t1), (I v2), (DP (cI x5)), (I x5), (Bo (x4 != x5))]) (LH := [([], ⟨0, []⟩)]) (D := [⟨[(0, none)], [], [0], false⟩, ⟨[(5, none)], [], [0], false⟩, ⟨[(17, some 0), (18, some 1)], [0, 1], [0], false⟩, ⟨[(19, some 2)], [0, 1, 2], [0], false⟩, ⟨[(1, none)], [], [0], false⟩, ⟨[(5, none)], [], [0], false⟩, ⟨[(21, some 4), (22, some 5)], [4, 5], [0], false⟩, ⟨[(23, some 6)], [4, 5, 6], [0], false⟩, ⟨[(20, some 3), (24, some 7)], [0, 1, 2, 3, 4, 5, 6, 7], [0], false⟩]) (S := []) (plan := [0, 1, 2, 3, 4, 5, 6, 7, 8]) mo (by kernel_rfl) rfl rfl rfl (dcons (dstep1 (Tm := [(0, (SL 1 cI t0))]) (L := []) (H := ⟨0, []⟩) rfl rfl rfl rfl rfl (astep_do rfl (ex_move (eV (v := (SL 1 cI t0)) rfl)))) (dcons (dstep1 (Tm := [(5, (I v2))]) (L := []) (H := ⟨0, []⟩) rfl rfl rfl rfl rfl (astep_do rfl (ex_move (eV (v := (I v2)) rfl)))) (dcons (dstep1 (Tm := [(17, (SL 1 cI t0)), (18, (I v2))]) (L := []) (H := ⟨0, []⟩) rfl rfl rfl rfl rfl (astep_do rfl (tx_idxD (c := cI) (xs := t0) (i := v2) ceI Tryz.underlying36 s_3 rfl rfl hx4))) (dcons (dstep1 (Tm := [(19, (DP (cI x4)))]) (L := []) (H := ⟨0, []⟩) rfl rfl rfl rfl rfl (astep_do rfl (tx_ldD1 (v := (I x4)) Tryz.underlying3 rfl rfl rfl))) (dcons (dstep1 (Tm := [(1, (SL 1 cI t1))]) (L := []) (H := ⟨0, []⟩) rfl rfl rfl rfl rfl (astep_do rfl (ex_move (eV (v := (SL 1 cI t1)) rfl)))) (dcons (dstep1 (Tm := [(5, (I v2))]) (L := []) (H := ⟨0, []⟩) rfl rfl rfl rfl rfl (astep_do rfl (ex_move (eV (v := (I v2)) rfl)))) (dcons (dstep1 (Tm := [(21, (SL 1 cI t1)), (22, (I v2))]) (L := []) (H := ⟨0, []⟩) rfl rfl rfl rfl rfl (astep_do rfl (tx_idxD (c := cI) (xs := t1) (i := v2) ceI Tryz.underlying36 s_3 rfl rfl hx5))) (dcons (dstep1 (Tm := [(23, (DP (cI x5)))]) (L := []) (H := ⟨0, []⟩) rfl rfl rfl rfl rfl (astep_do rfl (tx_ldD1 (v := (I x5)) Tryz.underlying3 rfl rfl rfl))) (dcons (dstep1 (Tm := [(20, (I x4)), (24, (I x5))]) (L := []) (H := ⟨0, []⟩) rfl rfl rfl rfl rfl (astep_do rfl (ex_bin (vx := (I x4)) (vy := (I x5)) rfl rfl neqI_ok))) dnil))))))))) ⟨rfl, rfl⟩) (by kernel_rfl) (by kernel_rfl) ?_
        show AWp _ _ _ _
        rcases Bool.eq_false_or_eq_true (x4 != x5) with hb6 | hb6
        · rw [condT hb6] at h
          refine awp_condT (boT hb6) ?_
          refine awp_seq ?_
          refine awp_region ?_
          refine arun_do rfl rfl rfl (ex_assign (eV (v := (Bo false)) rfl)) ?_
          refine arun_keepE [4] 0 0 (st' := ⟨26, 0, [(4, (Bo false))], [], ⟨0, []⟩⟩) (by kernel_rfl) (by kernel_rfl) ?_
          show AWp _ _ _ _
          refine awp_ret ?_
          cases h
          exact ares1 (rtmp rfl (eV rfl))
        · rw [condF hb6] at h
          refine awp_condF (boF hb6) ?_
          refine awp_skip ?_
          show AWp _ _ _ _
          refine awp_region ?_
          refine arun_do rfl rfl rfl (ex_move (eV (v := (I v2)) rfl)) ?_
          refine arun_do rfl rfl rfl (ex_bin (vx := (I v2)) (vy := (I 1)) rfl rfl addI_ok) ?_
          refine arun_do rfl rfl rfl (ex_assign (eV (v := (I (w64 (v2 + 1)))) rfl)) ?_
          refine arun_keepE [0, 1, 5] 0 0 (st' := ⟨26, 0, [(0, (SL 1 cI t0)), (1, (SL 1 cI t1)), (5, (I (w64 (v2 + 1))))], [], ⟨0, []⟩⟩) (by kernel_rfl) (by kernel_rfl) ?_
          exact Exists.intro n1 (And.intro (Nat.lt_succ_self _) (Exists.intro (w64 (v2 + 1)) (And.intro rfl h)))
      · rw [condF hb3] at h
        refine awp_condF (boF hb3) ?_
        refine awp_exit ?_
        show AWp _ _ _ _
        refine awp_seq ?_
        refine awp_region ?_
        refine arun_do rfl rfl rfl (ex_assign (eV (v := (Bo true)) rfl)) ?_
        refine arun_keepE [4] 0 0 (st' := ⟨26, 0, [(4, (Bo true))], [], ⟨0, []⟩⟩) (by kernel_rfl) (by kernel_rfl) ?_
        show AWp _ _ _ _
        refine awp_ret ?_
        cases h
        exact ares1 (rtmp rfl (eV rfl))

end Go.Proofs
