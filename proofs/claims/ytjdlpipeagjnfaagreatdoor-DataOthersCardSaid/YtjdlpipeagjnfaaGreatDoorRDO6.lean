/- Pure models of functions of the program, and that its code does what they say: walk files missing$1, api Node] at a closure, api Node] at a closure, walk files missing, walk files find, walk Find, data open. Written by a program. -/
import Derived.Test.YtjdlpipeagjnfaaGreatDoorRDO3
import Derived.Test.YtjdlpipeagjnfaaGreatDoorRDO5
import Derived.Test.YtjdlpipeagjnfaaGreatDoorRDOB
set_option maxRecDepth 20000
set_option maxHeartbeats 4000000
namespace Go.Proofs
open Go Go.Fhl
set_option linter.unusedVariables false
set_option linter.unusedSimpArgs false
noncomputable def M_walk_files_missing_1 (t0 : G_api_Node) : Option Bool :=
  some (t0.Kind == 3)
theorem ok_walk_files_missing_1 (t0 : G_api_Node) (r : Bool) (h : M_walk_files_missing_1 t0 = some r) : FFn Tryz.prog 95 [(Value.agg (cNd t0).toArray)] (Bo r) := by
  refine FFn.of_body (n := 6) Tryz.func95 rfl Tryz.ntmps95 rfl rfl rfl rfl ?_
  show AWp _ _ _ ⟨6, 0, [(0, (Value.agg (cNd t0).toArray))], [], ⟨0, []⟩⟩
  unfold M_walk_files_missing_1 at h
  refine awp_seq ?_
  refine awr ?_
  refine ado rfl rfl rfl (ex_box (vx := (Value.agg (cNd t0).toArray)) (cs := (cNd t0)) (k := 0) (L' := [(cNd t0)]) (eV (v := (Value.agg (cNd t0).toArray)) rfl) rfl rfl rfl) ?_
  refine ado rfl rfl rfl (eas (eV (v := (Bo false)) rfl)) ?_
  refine ake [1] 1 0 (st' := ⟨6, 0, [(1, (LP 0 0))], [(cNd t0)], ⟨0, []⟩⟩) (by kernel_rfl) (by kernel_rfl) ?_
  show AWp _ _ _ _
  refine awp_seq ?_
  refine awr ?_
  refine ado rfl rfl rfl (ex_fieldAddr (v := (LP 0 0)) Tryz.underlying38 rfl s_3 (by decide) rfl rfl) ?_
  refine ado rfl rfl rfl (tx_ldL1 (v := (I t0.Kind)) Tryz.underlying3 rfl rfl rfl rfl) ?_
  refine ado rfl rfl rfl (ex_bin (vx := (I t0.Kind)) (vy := (I 3)) rfl rfl eqlI_ok) ?_
  refine ado rfl rfl rfl (eas (eV (v := (Bo (t0.Kind == 3))) rfl)) ?_
  refine ake [2] 0 0 (st' := ⟨6, 0, [(2, (Bo (t0.Kind == 3)))], [], ⟨0, []⟩⟩) (by kernel_rfl) (by kernel_rfl) ?_
  show AWp _ _ _ _
  refine awp_ret ?_
  cases h
  exact ares1 (rtmp rfl (eV rfl))

noncomputable def M_slices_IndexFunc_api_Set_api_Node_c95_l1 (t0 : (List G_api_Node)) : Nat → Int → Option Int
  | 0, _ => none
  | n1 + 1, v1 =>
  cond (decide (v1 < (t0.length : Int))) (Option.bind (getI t0 v1) fun (x3 : G_api_Node) => Option.bind (M_walk_files_missing_1 x3) fun (x4 : Bool) => cond x4 (some v1) ((M_slices_IndexFunc_api_Set_api_Node_c95_l1 t0 n1) (w64 (v1 + 1)))) (some (-1))
noncomputable def M_slices_IndexFunc_api_Set_api_Node_c95 (t0 : (List G_api_Node)) : Option Int :=
  M_slices_IndexFunc_api_Set_api_Node_c95_l1 t0 fuel 0
theorem ok_slices_IndexFunc_api_Set_api_Node_c95 (t0 : (List G_api_Node)) (r : Int) (h : M_slices_IndexFunc_api_Set_api_Node_c95 t0 = some r) : FFn Tryz.prog 48 [(SL 5 cNd t0), (Value.func (Fn.func 95) #[] #[])] (I r) := by
  refine FFn.of_body (n := 19) Tryz.func48 rfl Tryz.ntmps48 rfl rfl rfl rfl ?_
  show AWp _ _ _ ⟨19, 0, [(0, (SL 5 cNd t0)), (1, (Value.func (Fn.func 95) #[] #[]))], [], ⟨0, []⟩⟩
  unfold M_slices_IndexFunc_api_Set_api_Node_c95 at h
  refine awp_seq ?_
  refine awr ?_
  refine ado rfl rfl rfl (eas (eV (v := (I 0)) rfl)) ?_
  refine ake [0, 1] 0 0 (st' := ⟨19, 0, [(0, (SL 5 cNd t0)), (1, (Value.func (Fn.func 95) #[] #[]))], [], ⟨0, []⟩⟩) (by kernel_rfl) (by kernel_rfl) ?_
  show AWp _ _ _ _
  refine awp_seq ?_
  refine awp_seq ?_
  refine awr ?_
  refine ado rfl rfl rfl (emv (eV (v := (SL 5 cNd t0)) rfl)) ?_
  refine ado rfl rfl rfl (tx_lenD (xs := t0) ce_api_Node Tryz.underlying25 rfl) ?_
  refine ado rfl rfl rfl (emv (eV (v := (I 0)) rfl)) ?_
  refine ake [0, 1, 7, 8] 0 0 (st' := ⟨19, 0, [(0, (SL 5 cNd t0)), (1, (Value.func (Fn.func 95) #[] #[])), (7, (I (t0.length : Int))), (8, (I 0))], [], ⟨0, []⟩⟩) (by kernel_rfl) (by kernel_rfl) ?_
  show AWp _ _ _ _
  refine awp_block ?_
  refine awp_loop (fun n s => ∃ (v1 : Int), s = ⟨19, 0, [(0, (SL 5 cNd t0)), (1, (Value.func (Fn.func 95) #[] #[])), (7, (I (t0.length : Int))), (8, (I v1))], [], ⟨0, []⟩⟩ ∧ M_slices_IndexFunc_api_Set_api_Node_c95_l1 t0 n v1 = some r) fuel (Exists.intro 0 (And.intro rfl h)) ?_
  rintro n s ⟨v1, rfl, h⟩ -
  cases n with
  | zero => cases h
  | succ n1 =>
    unfold M_slices_IndexFunc_api_Set_api_Node_c95_l1 at h
    refine awp_seq ?_
    refine awr ?_
    refine ado rfl rfl rfl (ex_bin (vx := (I v1)) (vy := (I (t0.length : Int))) rfl rfl lssI_ok) ?_
    refine ake [0, 1, 7, 8, 9] 0 0 (st' := ⟨19, 0, [(0, (SL 5 cNd t0)), (1, (Value.func (Fn.func 95) #[] #[])), (7, (I (t0.length : Int))), (8, (I v1)), (9, (Bo (decide (v1 < (t0.length : Int)))))], [], ⟨0, []⟩⟩) (by kernel_rfl) (by kernel_rfl) ?_
    show AWp _ _ _ _
    refine awp_seq ?_
    rcases Bool.eq_false_or_eq_true (decide (v1 < (t0.length : Int))) with hb2 | hb2
    · rw [condT hb2] at h
      refine awp_condT (boT hb2) ?_
      refine awp_skip ?_
      show AWp _ _ _ _
      refine awp_seq ?_
      refine awp_block ?_
      refine awp_seq ?_
      refine awr ?_
      refine ado rfl rfl rfl (emv (eV (v := (I v1)) rfl)) ?_
      refine ado rfl rfl rfl (eas (eV (v := (I v1)) rfl)) ?_
      refine ake [0, 1, 5, 7, 8] 0 0 (st' := ⟨19, 0, [(0, (SL 5 cNd t0)), (1, (Value.func (Fn.func 95) #[] #[])), (5, (I v1)), (7, (I (t0.length : Int))), (8, (I v1))], [], ⟨0, []⟩⟩) (by kernel_rfl) (by kernel_rfl) ?_
      show AWp _ _ _ _
      refine awp_seq ?_
      refine awr ?_
      refine ado rfl rfl rfl (emv (eV (v := (Value.func (Fn.func 95) #[] #[])) rfl)) ?_
      refine ado rfl rfl rfl (emv (eV (v := (SL 5 cNd t0)) rfl)) ?_
      refine ado rfl rfl rfl (emv (eV (v := (I v1)) rfl)) ?_
      obtain ⟨x3, hx3, h⟩ := bindS h
      refine ado rfl rfl rfl (tx_idxD (c := cNd) (xs := t0) (i := v1) ce_api_Node Tryz.underlying25 s_38 rfl rfl hx3) ?_
      refine ado rfl rfl rfl (tx_ldDA (vs := (cNd x3)) Tryz.underlying38 rfl s_38 (by decide) rfl (Nat.le_of_ble_eq_true rfl) rfl) ?_
      obtain ⟨x4, hx4, h⟩ := bindS h
      refine ado rfl rfl rfl (ex_call0 (vs := [(Value.agg (cNd x3).toArray)]) (v := (Bo x4)) rfl en_95 (cargs (evs rfl evs_nil)) rfl (ok_walk_files_missing_1 x3 x4 hx4) rfl) ?_
      refine ake [0, 1, 5, 7, 8, 16] 0 0 (st' := ⟨19, 0, [(0, (SL 5 cNd t0)), (1, (Value.func (Fn.func 95) #[] #[])), (5, (I v1)), (7, (I (t0.length : Int))), (8, (I v1)), (16, (Bo x4))], [], ⟨0, []⟩⟩) (by kernel_rfl) (by kernel_rfl) ?_
      show AWp _ _ _ _
      rcases Bool.eq_false_or_eq_true x4 with hb5 | hb5
      · rw [condT hb5] at h
        refine awp_condT (boT hb5) ?_
        refine awp_seq ?_
        refine awr ?_
        refine ado rfl rfl rfl (emv (eV (v := (I v1)) rfl)) ?_
        refine ado rfl rfl rfl (eas (eV (v := (I v1)) rfl)) ?_
        refine ake [4] 0 0 (st' := ⟨19, 0, [(4, (I v1))], [], ⟨0, []⟩⟩) (by kernel_rfl) (by kernel_rfl) ?_
        show AWp _ _ _ _
        refine awp_ret ?_
        cases h
        exact ares1 (rtmp rfl (eV rfl))
      · rw [condF hb5] at h
        refine awp_condF (boF hb5) ?_
        refine awp_skip ?_
        show AWp _ _ _ _
        refine awr ?_
        refine ado rfl rfl rfl (ex_bin (vx := (I v1)) (vy := (I 1)) rfl rfl addI_ok) ?_
        refine ado rfl rfl rfl (emv (eV (v := (I (w64 (v1 + 1)))) rfl)) ?_
        refine ake [0, 1, 7, 8] 0 0 (st' := ⟨19, 0, [(0, (SL 5 cNd t0)), (1, (Value.func (Fn.func 95) #[] #[])), (7, (I (t0.length : Int))), (8, (I (w64 (v1 + 1))))], [], ⟨0, []⟩⟩) (by kernel_rfl) (by kernel_rfl) ?_
        exact Exists.intro n1 (And.intro (Nat.lt_succ_self _) (Exists.intro (w64 (v1 + 1)) (And.intro rfl h)))
    · rw [condF hb2] at h
      refine awp_condF (boF hb2) ?_
      refine awp_exit ?_
      show AWp _ _ _ _
      refine awp_seq ?_
      refine awr ?_
      refine ado rfl rfl rfl (eas (eV (v := (I (-1))) rfl)) ?_
      refine ake [4] 0 0 (st' := ⟨19, 0, [(4, (I (-1)))], [], ⟨0, []⟩⟩) (by kernel_rfl) (by kernel_rfl) ?_
      show AWp _ _ _ _
      refine awp_ret ?_
      cases h
      exact ares1 (rtmp rfl (eV rfl))

noncomputable def M_slices_ContainsFunc_api_Set_api_Node_c95 (t0 : (List G_api_Node)) : Option Bool :=
  Option.bind (M_slices_IndexFunc_api_Set_api_Node_c95 t0) fun (x1 : Int) => some (decide (x1 ≥ 0))
theorem ok_slices_ContainsFunc_api_Set_api_Node_c95 (t0 : (List G_api_Node)) (r : Bool) (h : M_slices_ContainsFunc_api_Set_api_Node_c95 t0 = some r) : FFn Tryz.prog 35 [(SL 5 cNd t0), (Value.func (Fn.func 95) #[] #[])] (Bo r) := by
  refine FFn.of_body (n := 9) Tryz.func35 rfl Tryz.ntmps35 rfl rfl rfl rfl ?_
  show AWp _ _ _ ⟨9, 0, [(0, (SL 5 cNd t0)), (1, (Value.func (Fn.func 95) #[] #[]))], [], ⟨0, []⟩⟩
  unfold M_slices_ContainsFunc_api_Set_api_Node_c95 at h
  refine awp_seq ?_
  refine awr ?_
  refine ado rfl rfl rfl (eas (eV (v := (Bo false)) rfl)) ?_
  refine ake [0, 1] 0 0 (st' := ⟨9, 0, [(0, (SL 5 cNd t0)), (1, (Value.func (Fn.func 95) #[] #[]))], [], ⟨0, []⟩⟩) (by kernel_rfl) (by kernel_rfl) ?_
  show AWp _ _ _ _
  refine awp_seq ?_
  refine awr ?_
  refine ado rfl rfl rfl (emv (eV (v := (SL 5 cNd t0)) rfl)) ?_
  refine ado rfl rfl rfl (emv (eV (v := (Value.func (Fn.func 95) #[] #[])) rfl)) ?_
  obtain ⟨x1, hx1, h⟩ := bindS h
  refine ado rfl rfl rfl (ex_callA (vs := [(SL 5 cNd t0), (Value.func (Fn.func 95) #[] #[])]) (v := (I x1)) rfl en_48 (cargs (evs rfl (evs rfl evs_nil))) rfl (ok_slices_IndexFunc_api_Set_api_Node_c95 t0 x1 hx1) rfl) ?_
  refine ado rfl rfl rfl (ex_bin (vx := (I x1)) (vy := (I 0)) rfl rfl geqI_ok) ?_
  refine ado rfl rfl rfl (eas (eV (v := (Bo (decide (x1 ≥ 0)))) rfl)) ?_
  refine ake [4] 0 0 (st' := ⟨9, 0, [(4, (Bo (decide (x1 ≥ 0))))], [], ⟨0, []⟩⟩) (by kernel_rfl) (by kernel_rfl) ?_
  show AWp _ _ _ _
  refine awp_ret ?_
  cases h
  exact ares1 (rtmp rfl (eV rfl))

noncomputable def M_walk_files_missing (t0 : G_walk_files) : Option Int :=
  Option.bind (M_slices_ContainsFunc_api_Set_api_Node_c95 t0.Set) fun (x1 : Bool) => cond x1 (some 12) (some 2)
theorem ok_walk_files_missing (t0 : G_walk_files) (r : Int) (h : M_walk_files_missing t0 = some r) : FFn Tryz.prog 75 [(Value.agg (c_walk_files t0).toArray)] (I r) := by
  refine FFn.of_body (n := 6) Tryz.func75 rfl Tryz.ntmps75 rfl rfl rfl rfl ?_
  show AWp _ _ _ ⟨6, 0, [(0, (Value.agg (c_walk_files t0).toArray))], [], ⟨0, []⟩⟩
  unfold M_walk_files_missing at h
  refine awp_seq ?_
  refine awr ?_
  refine ado rfl rfl rfl (ex_box (vx := (Value.agg (c_walk_files t0).toArray)) (cs := (c_walk_files t0)) (k := 0) (L' := [(c_walk_files t0)]) (eV (v := (Value.agg (c_walk_files t0).toArray)) rfl) rfl rfl rfl) ?_
  refine ado rfl rfl rfl (eas (eV (v := (I 0)) rfl)) ?_
  refine ake [1] 1 0 (st' := ⟨6, 0, [(1, (LP 0 0))], [(c_walk_files t0)], ⟨0, []⟩⟩) (by kernel_rfl) (by kernel_rfl) ?_
  show AWp _ _ _ _
  refine awp_seq ?_
  refine awp_seq ?_
  refine awr ?_
  refine ado rfl rfl rfl (ex_fieldAddr (v := (LP 0 0)) Tryz.underlying90 rfl s_25 (by decide) rfl rfl) ?_
  refine ado rfl rfl rfl (tx_ldL1 (v := (SL 5 cNd t0.Set)) Tryz.underlying25 rfl rfl rfl rfl) ?_
  obtain ⟨x1, hx1, h⟩ := bindS h
  refine ado rfl rfl rfl (ex_callA (vs := [(SL 5 cNd t0.Set), (FN 95)]) (v := (Bo x1)) rfl en_35 (cargs (evs rfl (evs rfl evs_nil))) rfl (ok_slices_ContainsFunc_api_Set_api_Node_c95 t0.Set x1 hx1) rfl) ?_
  refine ake [5] 0 0 (st' := ⟨6, 0, [(5, (Bo x1))], [], ⟨0, []⟩⟩) (by kernel_rfl) (by kernel_rfl) ?_
  show AWp _ _ _ _
  rcases Bool.eq_false_or_eq_true x1 with hb2 | hb2
  · rw [condT hb2] at h
    refine awp_condT (boT hb2) ?_
    refine awp_seq ?_
    refine awr ?_
    refine ado rfl rfl rfl (eas (eV (v := (I 12)) rfl)) ?_
    refine ake [2] 0 0 (st' := ⟨6, 0, [(2, (I 12))], [], ⟨0, []⟩⟩) (by kernel_rfl) (by kernel_rfl) ?_
    show AWp _ _ _ _
    refine awp_ret ?_
    cases h
    exact ares1 (rtmp rfl (eV rfl))
  · rw [condF hb2] at h
    refine awp_condF (boF hb2) ?_
    refine awp_skip ?_
    show AWp _ _ _ _
    refine awp_seq ?_
    refine awr ?_
    refine ado rfl rfl rfl (eas (eV (v := (I 2)) rfl)) ?_
    refine ake [2] 0 0 (st' := ⟨6, 0, [(2, (I 2))], [], ⟨0, []⟩⟩) (by kernel_rfl) (by kernel_rfl) ?_
    show AWp _ _ _ _
    refine awp_ret ?_
    cases h
    exact ares1 (rtmp rfl (eV rfl))

noncomputable def M_walk_files_find_l1 (t0 : G_walk_files) (t1 : (List Str)) : Nat → Int → Int → Option (Int × Int)
  | 0, _, _ => none
  | n1 + 1, v1, v2 =>
  cond (decide (v2 < (t1.length : Int))) (Option.bind (getI t1 v2) fun (x4 : Str) => Option.bind (M_walk_files_at t0 v1) fun (x5 : G_api_Node) => cond (x5.Kind != 2) (some (0, 5)) (Option.bind (M_node_Kid t0.Set v1 x4) fun (x7 : (Int × Bool)) => cond (!x7.2) (Option.bind (M_walk_files_missing t0) fun (x9 : Int) => some (0, x9)) ((M_walk_files_find_l1 t0 t1 n1) x7.1 (w64 (v2 + 1))))) (some (v1, 0))
noncomputable def M_walk_files_find (t0 : G_walk_files) (t1 : (List Str)) : Option (Int × Int) :=
  M_walk_files_find_l1 t0 t1 fuel 0 0
theorem ok_walk_files_find (t0 : G_walk_files) (t1 : (List Str)) (r : (Int × Int)) (h : M_walk_files_find t0 t1 = some r) : FFn Tryz.prog 58 [(Value.agg (c_walk_files t0).toArray), (SL 1 cS t1)] (Value.tuple #[(I r.1), (I r.2)]) := by
  refine FFn.of_body (n := 37) Tryz.func58 rfl Tryz.ntmps58 rfl rfl rfl rfl ?_
  show AWp _ _ _ ⟨37, 0, [(0, (Value.agg (c_walk_files t0).toArray)), (1, (SL 1 cS t1))], [], ⟨0, []⟩⟩
  unfold M_walk_files_find at h
  refine awp_seq ?_
  refine awr ?_
  refine ado rfl rfl rfl (ex_box (vx := (Value.agg (c_walk_files t0).toArray)) (cs := (c_walk_files t0)) (k := 0) (L' := [(c_walk_files t0)]) (eV (v := (Value.agg (c_walk_files t0).toArray)) rfl) rfl rfl rfl) ?_
  refine ado rfl rfl rfl (eas (eV (v := (I 0)) rfl)) ?_
  refine ado rfl rfl rfl (eas (eV (v := (I 0)) rfl)) ?_
  refine ake [1, 2] 1 0 (st' := ⟨37, 0, [(1, (SL 1 cS t1)), (2, (LP 0 0))], [(c_walk_files t0)], ⟨0, []⟩⟩) (by kernel_rfl) (by kernel_rfl) ?_
  show AWp _ _ _ _
  refine awp_seq ?_
  refine awr ?_
  refine ado rfl rfl rfl (eas (eV (v := (I 0)) rfl)) ?_
  refine ake [1, 2, 6] 1 0 (st' := ⟨37, 0, [(1, (SL 1 cS t1)), (2, (LP 0 0)), (6, (I 0))], [(c_walk_files t0)], ⟨0, []⟩⟩) (by kernel_rfl) (by kernel_rfl) ?_
  show AWp _ _ _ _
  refine awp_seq ?_
  refine awp_seq ?_
  refine awr ?_
  refine ado rfl rfl rfl (emv (eV (v := (SL 1 cS t1)) rfl)) ?_
  refine ado rfl rfl rfl (tx_lenD (xs := t1) ceS Tryz.underlying48 rfl) ?_
  refine ado rfl rfl rfl (emv (eV (v := (I 0)) rfl)) ?_
  refine ake [2, 6, 11, 12, 13] 1 0 (st' := ⟨37, 0, [(2, (LP 0 0)), (6, (I 0)), (11, (SL 1 cS t1)), (12, (I (t1.length : Int))), (13, (I 0))], [(c_walk_files t0)], ⟨0, []⟩⟩) (by kernel_rfl) (by kernel_rfl) ?_
  show AWp _ _ _ _
  refine awp_block ?_
  refine awp_loop (fun n s => ∃ (v1 : Int) (v2 : Int), s = ⟨37, 0, [(2, (LP 0 0)), (6, (I v1)), (11, (SL 1 cS t1)), (12, (I (t1.length : Int))), (13, (I v2))], [(c_walk_files t0)], ⟨0, []⟩⟩ ∧ M_walk_files_find_l1 t0 t1 n v1 v2 = some r) fuel (Exists.intro 0 (Exists.intro 0 (And.intro rfl h))) ?_
  rintro n s ⟨v1, v2, rfl, h⟩ -
  cases n with
  | zero => cases h
  | succ n1 =>
    unfold M_walk_files_find_l1 at h
    refine awp_seq ?_
    refine awr ?_
    refine ado rfl rfl rfl (ex_bin (vx := (I v2)) (vy := (I (t1.length : Int))) rfl rfl lssI_ok) ?_
    refine ake [2, 6, 11, 12, 13, 14] 1 0 (st' := ⟨37, 0, [(2, (LP 0 0)), (6, (I v1)), (11, (SL 1 cS t1)), (12, (I (t1.length : Int))), (13, (I v2)), (14, (Bo (decide (v2 < (t1.length : Int)))))], [(c_walk_files t0)], ⟨0, []⟩⟩) (by kernel_rfl) (by kernel_rfl) ?_
    show AWp _ _ _ _
    refine awp_seq ?_
    rcases Bool.eq_false_or_eq_true (decide (v2 < (t1.length : Int))) with hb3 | hb3
    · rw [condT hb3] at h
      refine awp_condT (boT hb3) ?_
      refine awp_skip ?_
      show AWp _ _ _ _
      refine awp_seq ?_
      refine awp_block ?_
      refine awp_seq ?_
      refine awr ?_
      obtain ⟨x4, hx4, h⟩ := bindS h
      refine ado rfl rfl rfl (tx_idxD (c := cS) (xs := t1) (i := v2) ceS Tryz.underlying48 s_9 rfl rfl hx4) ?_
      refine ado rfl rfl rfl (tx_ldD1 (v := (S x4)) Tryz.underlying9 rfl rfl rfl) ?_
      refine ado rfl rfl rfl (eas (eV (v := (S x4)) rfl)) ?_
      refine ake [2, 6, 8, 11, 12, 13] 1 0 (st' := ⟨37, 0, [(2, (LP 0 0)), (6, (I v1)), (8, (S x4)), (11, (SL 1 cS t1)), (12, (I (t1.length : Int))), (13, (I v2))], [(c_walk_files t0)], ⟨0, []⟩⟩) (by kernel_rfl) (by kernel_rfl) ?_
      show AWp _ _ _ _
      refine awp_seq ?_
      refine awp_seq ?_
      refine awr ?_
      refine ado rfl rfl rfl (tx_ldLA (vs := (c_walk_files t0)) Tryz.underlying90 rfl s_90 (by decide) rfl rfl rfl rfl) ?_
      refine ado rfl rfl rfl (emv (eV (v := (I v1)) rfl)) ?_
      obtain ⟨x5, hx5, h⟩ := bindS h
      refine ado rfl rfl rfl (ex_call0 (vs := [(Value.agg (c_walk_files t0).toArray), (I v1)]) (v := (Value.agg (cNd x5).toArray)) rfl en_73 (cargs (evs rfl (evs rfl evs_nil))) rfl (ok_walk_files_at t0 v1 x5 hx5) rfl) ?_
      refine ado rfl rfl rfl (ex_field (vx := (Value.agg (cNd x5).toArray)) (v := (I x5.Kind)) rfl (by kernel_rfl)) ?_
      refine ado rfl rfl rfl (ex_bin (vx := (I x5.Kind)) (vy := (I 2)) rfl rfl neqI_ok) ?_
      refine ake [2, 6, 8, 11, 12, 13, 21] 1 0 (st' := ⟨37, 0, [(2, (LP 0 0)), (6, (I v1)), (8, (S x4)), (11, (SL 1 cS t1)), (12, (I (t1.length : Int))), (13, (I v2)), (21, (Bo (x5.Kind != 2)))], [(c_walk_files t0)], ⟨0, []⟩⟩) (by kernel_rfl) (by kernel_rfl) ?_
      show AWp _ _ _ _
      rcases Bool.eq_false_or_eq_true (x5.Kind != 2) with hb6 | hb6
      · rw [condT hb6] at h
        refine awp_condT (boT hb6) ?_
        refine awp_seq ?_
        refine awr ?_
        refine ado rfl rfl rfl (eas (eV (v := (I 0)) rfl)) ?_
        refine ado rfl rfl rfl (eas (eV (v := (I 5)) rfl)) ?_
        refine ake [4, 5] 0 0 (st' := ⟨37, 0, [(4, (I 0)), (5, (I 5))], [], ⟨0, []⟩⟩) (by kernel_rfl) (by kernel_rfl) ?_
        show AWp _ _ _ _
        refine awp_ret ?_
        cases h
        exact aresN rfl (L2.cons (rtmp rfl (eV rfl)) (L2.cons (rtmp rfl (eV rfl)) L2.nil)) rfl
      · rw [condF hb6] at h
        refine awp_condF (boF hb6) ?_
        refine awp_skip ?_
        show AWp _ _ _ _
        refine awp_seq ?_
        refine awr ?_
        refine ado rfl rfl rfl (ex_fieldAddr (v := (LP 0 0)) Tryz.underlying90 rfl s_25 (by decide) rfl rfl) ?_
        refine ado rfl rfl rfl (tx_ldL1 (v := (SL 5 cNd t0.Set)) Tryz.underlying25 rfl rfl rfl rfl) ?_
        refine ado rfl rfl rfl (emv (eV (v := (I v1)) rfl)) ?_
        refine ado rfl rfl rfl (emv (eV (v := (S x4)) rfl)) ?_
        obtain ⟨x7, hx7, h⟩ := bindS h
        refine ado rfl rfl rfl (ex_call0 (vs := [(SL 5 cNd t0.Set), (I v1), (S x4)]) (v := (Value.tuple #[(I x7.1), (Bo x7.2)])) rfl en_74 (cargs (evs rfl (evs rfl (evs rfl evs_nil)))) rfl (ok_node_Kid t0.Set v1 x4 x7 hx7) rfl) ?_
        refine ado rfl rfl rfl (emv (eV (v := (Value.tuple #[(I x7.1), (Bo x7.2)])) rfl)) ?_
        refine ado rfl rfl rfl (ex_extract (vx := (Value.tuple #[(I x7.1), (Bo x7.2)])) (v := (I x7.1)) rfl rfl) ?_
        refine ado rfl rfl rfl (ex_extract (vx := (Value.tuple #[(I x7.1), (Bo x7.2)])) (v := (Bo x7.2)) rfl rfl) ?_
        refine ado rfl rfl rfl (eas (eV (v := (I x7.1)) rfl)) ?_
        refine ado rfl rfl rfl (eas (eV (v := (Bo x7.2)) rfl)) ?_
        refine ake [2, 9, 10, 11, 12, 13] 1 0 (st' := ⟨37, 0, [(2, (LP 0 0)), (9, (I x7.1)), (10, (Bo x7.2)), (11, (SL 1 cS t1)), (12, (I (t1.length : Int))), (13, (I v2))], [(c_walk_files t0)], ⟨0, []⟩⟩) (by kernel_rfl) (by kernel_rfl) ?_
        show AWp _ _ _ _
        refine awp_seq ?_
        refine awp_seq ?_
        refine awr ?_
        refine ado rfl rfl rfl (emv (eV (v := (Bo x7.2)) rfl)) ?_
        refine ado rfl rfl rfl (ex_un (vx := (Bo x7.2)) rfl notB_ok) ?_
        refine ake [2, 9, 11, 12, 13, 31] 1 0 (st' := ⟨37, 0, [(2, (LP 0 0)), (9, (I x7.1)), (11, (SL 1 cS t1)), (12, (I (t1.length : Int))), (13, (I v2)), (31, (Bo (!x7.2)))], [(c_walk_files t0)], ⟨0, []⟩⟩) (by kernel_rfl) (by kernel_rfl) ?_
        show AWp _ _ _ _
        rcases Bool.eq_false_or_eq_true (!x7.2) with hb8 | hb8
        · rw [condT hb8] at h
          refine awp_condT (boT hb8) ?_
          refine awp_seq ?_
          refine awr ?_
          refine ado rfl rfl rfl (tx_ldLA (vs := (c_walk_files t0)) Tryz.underlying90 rfl s_90 (by decide) rfl rfl rfl rfl) ?_
          obtain ⟨x9, hx9, h⟩ := bindS h
          refine ado rfl rfl rfl (ex_call0 (vs := [(Value.agg (c_walk_files t0).toArray)]) (v := (I x9)) rfl en_75 (cargs (evs rfl evs_nil)) rfl (ok_walk_files_missing t0 x9 hx9) rfl) ?_
          refine ado rfl rfl rfl (eas (eV (v := (I 0)) rfl)) ?_
          refine ado rfl rfl rfl (eas (eV (v := (I x9)) rfl)) ?_
          refine ake [4, 5] 0 0 (st' := ⟨37, 0, [(4, (I 0)), (5, (I x9))], [], ⟨0, []⟩⟩) (by kernel_rfl) (by kernel_rfl) ?_
          show AWp _ _ _ _
          refine awp_ret ?_
          cases h
          exact aresN rfl (L2.cons (rtmp rfl (eV rfl)) (L2.cons (rtmp rfl (eV rfl)) L2.nil)) rfl
        · rw [condF hb8] at h
          refine awp_condF (boF hb8) ?_
          refine awp_skip ?_
          show AWp _ _ _ _
          refine awr ?_
          refine ado rfl rfl rfl (emv (eV (v := (I x7.1)) rfl)) ?_
          refine ado rfl rfl rfl (eas (eV (v := (I x7.1)) rfl)) ?_
          refine ake [2, 6, 11, 12, 13] 1 0 (st' := ⟨37, 0, [(2, (LP 0 0)), (6, (I x7.1)), (11, (SL 1 cS t1)), (12, (I (t1.length : Int))), (13, (I v2))], [(c_walk_files t0)], ⟨0, []⟩⟩) (by kernel_rfl) (by kernel_rfl) ?_
          show AWp _ _ _ _
          refine awr ?_
          refine ado rfl rfl rfl (ex_bin (vx := (I v2)) (vy := (I 1)) rfl rfl addI_ok) ?_
          refine ado rfl rfl rfl (emv (eV (v := (I (w64 (v2 + 1)))) rfl)) ?_
          refine ake [2, 6, 11, 12, 13] 1 0 (st' := ⟨37, 0, [(2, (LP 0 0)), (6, (I x7.1)), (11, (SL 1 cS t1)), (12, (I (t1.length : Int))), (13, (I (w64 (v2 + 1))))], [(c_walk_files t0)], ⟨0, []⟩⟩) (by kernel_rfl) (by kernel_rfl) ?_
          exact Exists.intro n1 (And.intro (Nat.lt_succ_self _) (Exists.intro x7.1 (Exists.intro (w64 (v2 + 1)) (And.intro rfl h))))
    · rw [condF hb3] at h
      refine awp_condF (boF hb3) ?_
      refine awp_exit ?_
      show AWp _ _ _ _
      refine awp_seq ?_
      refine awr ?_
      refine ado rfl rfl rfl (emv (eV (v := (I v1)) rfl)) ?_
      refine ado rfl rfl rfl (eas (eV (v := (I v1)) rfl)) ?_
      refine ado rfl rfl rfl (eas (eV (v := (I 0)) rfl)) ?_
      refine ake [4, 5] 0 0 (st' := ⟨37, 0, [(4, (I v1)), (5, (I 0))], [], ⟨0, []⟩⟩) (by kernel_rfl) (by kernel_rfl) ?_
      show AWp _ _ _ _
      refine awp_ret ?_
      cases h
      exact aresN rfl (L2.cons (rtmp rfl (eV rfl)) (L2.cons (rtmp rfl (eV rfl)) L2.nil)) rfl

noncomputable def M_walk_Find (t0 : (List G_api_Node)) (t1 : Str) : Option (Int × Int) :=
  Option.bind (M_name_Parts t1) fun (x1 : ((List Str) × Bool)) => cond (!x1.2) (some (0, 1)) (Option.bind (M_walk_files_find (G_walk_files.mk t0) x1.1) fun (x3 : (Int × Int)) => some (x3.1, x3.2))
theorem ok_walk_Find (t0 : (List G_api_Node)) (t1 : Str) (r : (Int × Int)) (h : M_walk_Find t0 t1 = some r) : FFn Tryz.prog 43 [(SL 5 cNd t0), (S t1)] (Value.tuple #[(I r.1), (I r.2)]) := by
  refine FFn.of_body (n := 21) Tryz.func43 rfl Tryz.ntmps43 rfl rfl rfl rfl ?_
  show AWp _ _ _ ⟨21, 0, [(0, (SL 5 cNd t0)), (1, (S t1))], [], ⟨0, []⟩⟩
  unfold M_walk_Find at h
  refine awp_seq ?_
  refine awr ?_
  refine ado rfl rfl rfl (eas (eV (v := (I 0)) rfl)) ?_
  refine ado rfl rfl rfl (eas (eV (v := (I 0)) rfl)) ?_
  refine ake [0, 1] 0 0 (st' := ⟨21, 0, [(0, (SL 5 cNd t0)), (1, (S t1))], [], ⟨0, []⟩⟩) (by kernel_rfl) (by kernel_rfl) ?_
  show AWp _ _ _ _
  refine awp_seq ?_
  refine awr ?_
  refine ado rfl rfl rfl (emv (eV (v := (S t1)) rfl)) ?_
  obtain ⟨x1, hx1, h⟩ := bindS h
  refine ado rfl rfl rfl (ex_call0 (vs := [(S t1)]) (v := (Value.tuple #[(SL 1 cS x1.1), (Bo x1.2)])) rfl en_57 (cargs (evs rfl evs_nil)) rfl (ok_name_Parts t1 x1 hx1) rfl) ?_
  refine ado rfl rfl rfl (emv (eV (v := (Value.tuple #[(SL 1 cS x1.1), (Bo x1.2)])) rfl)) ?_
  refine ado rfl rfl rfl (ex_extract (vx := (Value.tuple #[(SL 1 cS x1.1), (Bo x1.2)])) (v := (SL 1 cS x1.1)) rfl rfl) ?_
  refine ado rfl rfl rfl (ex_extract (vx := (Value.tuple #[(SL 1 cS x1.1), (Bo x1.2)])) (v := (Bo x1.2)) rfl rfl) ?_
  refine ado rfl rfl rfl (eas (eV (v := (SL 1 cS x1.1)) rfl)) ?_
  refine ado rfl rfl rfl (eas (eV (v := (Bo x1.2)) rfl)) ?_
  refine ake [0, 6, 7] 0 0 (st' := ⟨21, 0, [(0, (SL 5 cNd t0)), (6, (SL 1 cS x1.1)), (7, (Bo x1.2))], [], ⟨0, []⟩⟩) (by kernel_rfl) (by kernel_rfl) ?_
  show AWp _ _ _ _
  refine awp_seq ?_
  refine awp_seq ?_
  refine awr ?_
  refine ado rfl rfl rfl (emv (eV (v := (Bo x1.2)) rfl)) ?_
  refine ado rfl rfl rfl (ex_un (vx := (Bo x1.2)) rfl notB_ok) ?_
  refine ake [0, 6, 14] 0 0 (st' := ⟨21, 0, [(0, (SL 5 cNd t0)), (6, (SL 1 cS x1.1)), (14, (Bo (!x1.2)))], [], ⟨0, []⟩⟩) (by kernel_rfl) (by kernel_rfl) ?_
  show AWp _ _ _ _
  rcases Bool.eq_false_or_eq_true (!x1.2) with hb2 | hb2
  · rw [condT hb2] at h
    refine awp_condT (boT hb2) ?_
    refine awp_seq ?_
    refine awr ?_
    refine ado rfl rfl rfl (eas (eV (v := (I 0)) rfl)) ?_
    refine ado rfl rfl rfl (eas (eV (v := (I 1)) rfl)) ?_
    refine ake [4, 5] 0 0 (st' := ⟨21, 0, [(4, (I 0)), (5, (I 1))], [], ⟨0, []⟩⟩) (by kernel_rfl) (by kernel_rfl) ?_
    show AWp _ _ _ _
    refine awp_ret ?_
    cases h
    exact aresN rfl (L2.cons (rtmp rfl (eV rfl)) (L2.cons (rtmp rfl (eV rfl)) L2.nil)) rfl
  · rw [condF hb2] at h
    refine awp_condF (boF hb2) ?_
    refine awp_skip ?_
    show AWp _ _ _ _
    refine awp_seq ?_
    refine awr ?_
    refine ado rfl rfl rfl (emv (eV (v := (SL 5 cNd t0)) rfl)) ?_
    refine ado rfl rfl rfl (ex_build (qs := [(0, (SL 5 cNd t0))]) (v := (Value.agg (c_walk_files (G_walk_files.mk t0)).toArray)) (evp rfl evp_nil) (by kernel_rfl)) ?_
    refine ado rfl rfl rfl (emv (eV (v := (SL 1 cS x1.1)) rfl)) ?_
    obtain ⟨x3, hx3, h⟩ := bindS h
    refine ado rfl rfl rfl (ex_call0 (vs := [(Value.agg (c_walk_files (G_walk_files.mk t0)).toArray), (SL 1 cS x1.1)]) (v := (Value.tuple #[(I x3.1), (I x3.2)])) rfl en_58 (cargs (evs rfl (evs rfl evs_nil))) rfl (ok_walk_files_find (G_walk_files.mk t0) x1.1 x3 hx3) rfl) ?_
    refine ado rfl rfl rfl (ex_extract (vx := (Value.tuple #[(I x3.1), (I x3.2)])) (v := (I x3.1)) rfl rfl) ?_
    refine ado rfl rfl rfl (ex_extract (vx := (Value.tuple #[(I x3.1), (I x3.2)])) (v := (I x3.2)) rfl rfl) ?_
    refine ado rfl rfl rfl (eas (eV (v := (I x3.1)) rfl)) ?_
    refine ado rfl rfl rfl (eas (eV (v := (I x3.2)) rfl)) ?_
    refine ake [4, 5] 0 0 (st' := ⟨21, 0, [(4, (I x3.1)), (5, (I x3.2))], [], ⟨0, []⟩⟩) (by kernel_rfl) (by kernel_rfl) ?_
    show AWp _ _ _ _
    refine awp_ret ?_
    cases h
    exact aresN rfl (L2.cons (rtmp rfl (eV rfl)) (L2.cons (rtmp rfl (eV rfl)) L2.nil)) rfl

noncomputable def M_data_open_k1 (t0 : (List G_api_Node)) (x1 : (Int × Int)) (y2 : Int) : Option (G_data_file × Int) :=
  cond (y2 != 0) (some ((G_data_file.mk (G_api_Node.mk 0 0 [] [] 0) 0), y2)) (Option.bind (getI t0 x1.1) fun (x5 : G_api_Node) => cond (x5.Kind == 2) (some ((G_data_file.mk x5 x1.1), 4)) (some ((G_data_file.mk x5 x1.1), 0)))
noncomputable def M_data_open (t0 : (List G_api_Node)) (t1 : Str) : Option (G_data_file × Int) :=
  Option.bind (M_walk_Find t0 t1) fun (x1 : (Int × Int)) => cond ((x1.2 == 0) && (decide (x1.1 ≥ (t0.length : Int)))) (M_data_open_k1 t0 x1 2) (M_data_open_k1 t0 x1 x1.2)
theorem ok_data_open (t0 : (List G_api_Node)) (t1 : Str) (r : (G_data_file × Int)) (h : M_data_open t0 t1 = some r) : FFn Tryz.prog 24 [(SL 5 cNd t0), (S t1)] (Value.tuple #[(Value.agg (c_data_file r.1).toArray), (I r.2)]) := by
  refine FFn.of_body (n := 39) Tryz.func24 rfl Tryz.ntmps24 rfl rfl rfl rfl ?_
  show AWp _ _ _ ⟨39, 0, [(0, (SL 5 cNd t0)), (1, (S t1))], [], ⟨0, []⟩⟩
  unfold M_data_open at h
  refine awp_seq ?_
  refine awr ?_
  refine ado rfl rfl rfl (ex_alloc (k := 0) (zs := (c_data_file (G_data_file.mk (G_api_Node.mk 0 0 [] [] 0) 0))) (L' := [(c_data_file (G_data_file.mk (G_api_Node.mk 0 0 [] [] 0) 0))]) z_61 rfl rfl rfl rfl) ?_
  refine ado rfl rfl rfl (eas (eV (v := (I 0)) rfl)) ?_
  refine ake [0, 1, 4] 1 0 (st' := ⟨39, 0, [(0, (SL 5 cNd t0)), (1, (S t1)), (4, (LP 0 0))], [(c_data_file (G_data_file.mk (G_api_Node.mk 0 0 [] [] 0) 0))], ⟨0, []⟩⟩) (by kernel_rfl) (by kernel_rfl) ?_
  show AWp _ _ _ _
  refine awp_seq ?_
  refine awr ?_
  refine ado rfl rfl rfl (emv (eV (v := (SL 5 cNd t0)) rfl)) ?_
  refine ado rfl rfl rfl (emv (eV (v := (S t1)) rfl)) ?_
  obtain ⟨x1, hx1, h⟩ := bindS h
  refine ado rfl rfl rfl (ex_call0 (vs := [(SL 5 cNd t0), (S t1)]) (v := (Value.tuple #[(I x1.1), (I x1.2)])) rfl en_43 (cargs (evs rfl (evs rfl evs_nil))) rfl (ok_walk_Find t0 t1 x1 hx1) rfl) ?_
  refine ado rfl rfl rfl (emv (eV (v := (Value.tuple #[(I x1.1), (I x1.2)])) rfl)) ?_
  refine ado rfl rfl rfl (ex_extract (vx := (Value.tuple #[(I x1.1), (I x1.2)])) (v := (I x1.1)) rfl rfl) ?_
  refine ado rfl rfl rfl (ex_extract (vx := (Value.tuple #[(I x1.1), (I x1.2)])) (v := (I x1.2)) rfl rfl) ?_
  refine ado rfl rfl rfl (eas (eV (v := (I x1.1)) rfl)) ?_
  refine ado rfl rfl rfl (eas (eV (v := (I x1.2)) rfl)) ?_
  refine ake [0, 4, 6, 7] 1 0 (st' := ⟨39, 0, [(0, (SL 5 cNd t0)), (4, (LP 0 0)), (6, (I x1.1)), (7, (I x1.2))], [(c_data_file (G_data_file.mk (G_api_Node.mk 0 0 [] [] 0) 0))], ⟨0, []⟩⟩) (by kernel_rfl) (by kernel_rfl) ?_
  show AWp _ _ _ _
  refine awp_seqJ (fun s => ∃ (y2 : Int), s = ⟨39, 0, [(0, (SL 5 cNd t0)), (4, (LP 0 0)), (6, (I x1.1)), (7, (I y2))], [(c_data_file (G_data_file.mk (G_api_Node.mk 0 0 [] [] 0) 0))], ⟨0, []⟩⟩ ∧ M_data_open_k1 t0 x1 y2 = some r) ?_ ?_
  · refine awp_seq ?_
    refine awr ?_
    refine ado rfl rfl rfl (emv (eV (v := (I x1.2)) rfl)) ?_
    refine ado rfl rfl rfl (ex_bin (vx := (I x1.2)) (vy := (I 0)) rfl rfl eqlI_ok) ?_
    refine ado rfl rfl rfl (emv (eV (v := (Bo (x1.2 == 0))) rfl)) ?_
    refine arun_guard (v := (I x1.1)) ((x1.2 == 0) == true) rfl rfl rfl (fun hc => emv (eV (v := (I x1.1)) rfl)) ?_
    refine arun_guard (v := (SL 5 cNd t0)) ((x1.2 == 0) == true) rfl rfl rfl (fun hc => emv (eV (v := (SL 5 cNd t0)) rfl)) ?_
    refine arun_guard (v := (I (t0.length : Int))) ((x1.2 == 0) == true) rfl rfl rfl (fun hc => tx_lenD (xs := t0) ce_api_Node Tryz.underlying25 (cond_of hc)) ?_
    refine arun_guard (v := (Bo (decide (x1.1 ≥ (t0.length : Int))))) ((x1.2 == 0) == true) rfl rfl rfl (fun hc => ex_bin (vx := (I x1.1)) (vy := (I (t0.length : Int))) (cond_of hc) (cond_of hc) geqI_ok) ?_
    refine ado rfl rfl rfl (ex_pick rfl pkAnd) ?_
    refine ake [0, 4, 6, 7, 22] 1 0 (st' := ⟨39, 0, [(0, (SL 5 cNd t0)), (4, (LP 0 0)), (6, (I x1.1)), (7, (I x1.2)), (22, (Bo ((x1.2 == 0) && (decide (x1.1 ≥ (t0.length : Int))))))], [(c_data_file (G_data_file.mk (G_api_Node.mk 0 0 [] [] 0) 0))], ⟨0, []⟩⟩) (by kernel_rfl) (by kernel_rfl) ?_
    show AWp _ _ _ _
    rcases Bool.eq_false_or_eq_true ((x1.2 == 0) && (decide (x1.1 ≥ (t0.length : Int)))) with hb3 | hb3
    · rw [condT hb3] at h
      refine awp_condT (boT hb3) ?_
      refine awr ?_
      refine ado rfl rfl rfl (eas (eV (v := (I 2)) rfl)) ?_
      refine ake [0, 4, 6, 7] 1 0 (st' := ⟨39, 0, [(0, (SL 5 cNd t0)), (4, (LP 0 0)), (6, (I x1.1)), (7, (I 2))], [(c_data_file (G_data_file.mk (G_api_Node.mk 0 0 [] [] 0) 0))], ⟨0, []⟩⟩) (by kernel_rfl) (by kernel_rfl) ?_
      exact (Exists.intro 2 (And.intro rfl h))
    · rw [condF hb3] at h
      refine awp_condF (boF hb3) ?_
      refine awp_keepE [0, 4, 6, 7] 1 0 (st' := ⟨39, 0, [(0, (SL 5 cNd t0)), (4, (LP 0 0)), (6, (I x1.1)), (7, (I x1.2))], [(c_data_file (G_data_file.mk (G_api_Node.mk 0 0 [] [] 0) 0))], ⟨0, []⟩⟩) (by kernel_rfl) (by kernel_rfl) ?_
      refine awp_skip ?_
      exact (Exists.intro x1.2 (And.intro rfl h))
  · rintro s ⟨y2, rfl, h⟩
    unfold M_data_open_k1 at h
    refine awp_seq ?_
    refine awp_seq ?_
    refine awr ?_
    refine ado rfl rfl rfl (emv (eV (v := (I y2)) rfl)) ?_
    refine ado rfl rfl rfl (ex_bin (vx := (I y2)) (vy := (I 0)) rfl rfl neqI_ok) ?_
    refine ake [0, 4, 6, 7, 24] 1 0 (st' := ⟨39, 0, [(0, (SL 5 cNd t0)), (4, (LP 0 0)), (6, (I x1.1)), (7, (I y2)), (24, (Bo (y2 != 0)))], [(c_data_file (G_data_file.mk (G_api_Node.mk 0 0 [] [] 0) 0))], ⟨0, []⟩⟩) (by kernel_rfl) (by kernel_rfl) ?_
    show AWp _ _ _ _
    rcases Bool.eq_false_or_eq_true (y2 != 0) with hb4 | hb4
    · rw [condT hb4] at h
      refine awp_condT (boT hb4) ?_
      refine awp_seq ?_
      refine awr ?_
      refine ado rfl rfl rfl (ex_build (qs := []) (v := (Value.agg (c_data_file (G_data_file.mk (G_api_Node.mk 0 0 [] [] 0) 0)).toArray)) evp_nil (by kernel_rfl)) ?_
      refine ado rfl rfl rfl (emv (eV (v := (I y2)) rfl)) ?_
      refine arun_do0 rfl rfl (ex_storeL (vy := (Value.agg (c_data_file (G_data_file.mk (G_api_Node.mk 0 0 [] [] 0) 0)).toArray)) (cs := (c_data_file (G_data_file.mk (G_api_Node.mk 0 0 [] [] 0) 0))) (vs := (c_data_file (G_data_file.mk (G_api_Node.mk 0 0 [] [] 0) 0))) (L' := [(c_data_file (G_data_file.mk (G_api_Node.mk 0 0 [] [] 0) 0))]) rfl (eV (v := (Value.agg (c_data_file (G_data_file.mk (G_api_Node.mk 0 0 [] [] 0) 0)).toArray)) rfl) rfl s_61 rfl (Nat.le_of_ble_eq_true rfl) (by kernel_rfl)) ?_
      refine ado rfl rfl rfl (eas (eV (v := (I y2)) rfl)) ?_
      refine ake [4, 5] 1 0 (st' := ⟨39, 0, [(4, (LP 0 0)), (5, (I y2))], [(c_data_file (G_data_file.mk (G_api_Node.mk 0 0 [] [] 0) 0))], ⟨0, []⟩⟩) (by kernel_rfl) (by kernel_rfl) ?_
      show AWp _ _ _ _
      refine awp_ret ?_
      cases h
      exact aresN rfl (L2.cons (rcellL rfl rfl rfl (partA Tryz.underlying61 rfl s_61 (by decide) (Nat.le_of_ble_eq_true rfl) rfl)) (L2.cons (rtmp rfl (eV rfl)) L2.nil)) rfl
    · rw [condF hb4] at h
      refine awp_condF (boF hb4) ?_
      refine awp_skip ?_
      show AWp _ _ _ _
      refine awp_seq ?_
      refine awr ?_
      refine ado rfl rfl rfl (emv (eV (v := (SL 5 cNd t0)) rfl)) ?_
      refine ado rfl rfl rfl (emv (eV (v := (I x1.1)) rfl)) ?_
      obtain ⟨x5, hx5, h⟩ := bindS h
      refine ado rfl rfl rfl (tx_idxD (c := cNd) (xs := t0) (i := x1.1) ce_api_Node Tryz.underlying25 s_38 rfl rfl hx5) ?_
      refine ado rfl rfl rfl (tx_ldDA (vs := (cNd x5)) Tryz.underlying38 rfl s_38 (by decide) rfl (Nat.le_of_ble_eq_true rfl) rfl) ?_
      refine ado rfl rfl rfl (emv (eV (v := (I x1.1)) rfl)) ?_
      refine ado rfl rfl rfl (ex_build (qs := [(0, (Value.agg (cNd x5).toArray)), (1, (I x1.1))]) (v := (Value.agg (c_data_file (G_data_file.mk x5 x1.1)).toArray)) (evp rfl (evp rfl evp_nil)) (by kernel_rfl)) ?_
      refine ado rfl rfl rfl (ex_alloc (k := 1) (zs := (c_data_file (G_data_file.mk (G_api_Node.mk 0 0 [] [] 0) 0))) (L' := [(c_data_file (G_data_file.mk (G_api_Node.mk 0 0 [] [] 0) 0)), (c_data_file (G_data_file.mk (G_api_Node.mk 0 0 [] [] 0) 0))]) z_61 rfl rfl rfl rfl) ?_
      refine arun_do0 rfl rfl (ex_storeL (vy := (Value.agg (c_data_file (G_data_file.mk x5 x1.1)).toArray)) (cs := (c_data_file (G_data_file.mk (G_api_Node.mk 0 0 [] [] 0) 0))) (vs := (c_data_file (G_data_file.mk x5 x1.1))) (L' := [(c_data_file (G_data_file.mk (G_api_Node.mk 0 0 [] [] 0) 0)), (c_data_file (G_data_file.mk x5 x1.1))]) rfl (eV (v := (Value.agg (c_data_file (G_data_file.mk x5 x1.1)).toArray)) rfl) rfl s_61 rfl (Nat.le_of_ble_eq_true rfl) (by kernel_rfl)) ?_
      refine ake [4, 8] 2 0 (st' := ⟨39, 0, [(4, (LP 0 0)), (8, (LP 1 0))], [(c_data_file (G_data_file.mk (G_api_Node.mk 0 0 [] [] 0) 0)), (c_data_file (G_data_file.mk x5 x1.1))], ⟨0, []⟩⟩) (by kernel_rfl) (by kernel_rfl) ?_
      show AWp _ _ _ _
      refine awp_seq ?_
      refine awp_seq ?_
      refine awr ?_
      refine ado rfl rfl rfl (ex_fieldAddr (v := (LP 1 0)) Tryz.underlying61 rfl s_38 (by decide) rfl rfl) ?_
      refine ado rfl rfl rfl (ex_fieldAddr (v := (LP 1 0)) Tryz.underlying38 rfl s_3 (by decide) rfl rfl) ?_
      refine ado rfl rfl rfl (tx_ldL1 (v := (I x5.Kind)) Tryz.underlying3 rfl rfl rfl rfl) ?_
      refine ado rfl rfl rfl (ex_bin (vx := (I x5.Kind)) (vy := (I 2)) rfl rfl eqlI_ok) ?_
      refine ake [4, 8, 36] 2 0 (st' := ⟨39, 0, [(4, (LP 0 0)), (8, (LP 1 0)), (36, (Bo (x5.Kind == 2)))], [(c_data_file (G_data_file.mk (G_api_Node.mk 0 0 [] [] 0) 0)), (c_data_file (G_data_file.mk x5 x1.1))], ⟨0, []⟩⟩) (by kernel_rfl) (by kernel_rfl) ?_
      show AWp _ _ _ _
      rcases Bool.eq_false_or_eq_true (x5.Kind == 2) with hb6 | hb6
      · rw [condT hb6] at h
        refine awp_condT (boT hb6) ?_
        refine awp_seq ?_
        refine awr ?_
        refine ado rfl rfl rfl (tx_ldLA (vs := (c_data_file (G_data_file.mk x5 x1.1))) Tryz.underlying61 rfl s_61 (by decide) rfl rfl rfl rfl) ?_
        refine arun_do0 rfl rfl (ex_storeL (vy := (Value.agg (c_data_file (G_data_file.mk x5 x1.1)).toArray)) (cs := (c_data_file (G_data_file.mk (G_api_Node.mk 0 0 [] [] 0) 0))) (vs := (c_data_file (G_data_file.mk x5 x1.1))) (L' := [(c_data_file (G_data_file.mk x5 x1.1)), (c_data_file (G_data_file.mk x5 x1.1))]) rfl (eV (v := (Value.agg (c_data_file (G_data_file.mk x5 x1.1)).toArray)) rfl) rfl s_61 rfl (Nat.le_of_ble_eq_true rfl) (by kernel_rfl)) ?_
        refine ado rfl rfl rfl (eas (eV (v := (I 4)) rfl)) ?_
        refine ake [4, 5] 1 0 (st' := ⟨39, 0, [(4, (LP 0 0)), (5, (I 4))], [(c_data_file (G_data_file.mk x5 x1.1))], ⟨0, []⟩⟩) (by kernel_rfl) (by kernel_rfl) ?_
        show AWp _ _ _ _
        refine awp_ret ?_
        cases h
        exact aresN rfl (L2.cons (rcellL rfl rfl rfl (partA Tryz.underlying61 rfl s_61 (by decide) (Nat.le_of_ble_eq_true rfl) rfl)) (L2.cons (rtmp rfl (eV rfl)) L2.nil)) rfl
      · rw [condF hb6] at h
        refine awp_condF (boF hb6) ?_
        refine awp_skip ?_
        show AWp _ _ _ _
        refine awp_seq ?_
        refine awr ?_
        refine ado rfl rfl rfl (tx_ldLA (vs := (c_data_file (G_data_file.mk x5 x1.1))) Tryz.underlying61 rfl s_61 (by decide) rfl rfl rfl rfl) ?_
        refine arun_do0 rfl rfl (ex_storeL (vy := (Value.agg (c_data_file (G_data_file.mk x5 x1.1)).toArray)) (cs := (c_data_file (G_data_file.mk (G_api_Node.mk 0 0 [] [] 0) 0))) (vs := (c_data_file (G_data_file.mk x5 x1.1))) (L' := [(c_data_file (G_data_file.mk x5 x1.1)), (c_data_file (G_data_file.mk x5 x1.1))]) rfl (eV (v := (Value.agg (c_data_file (G_data_file.mk x5 x1.1)).toArray)) rfl) rfl s_61 rfl (Nat.le_of_ble_eq_true rfl) (by kernel_rfl)) ?_
        refine ado rfl rfl rfl (eas (eV (v := (I 0)) rfl)) ?_
        refine ake [4, 5] 1 0 (st' := ⟨39, 0, [(4, (LP 0 0)), (5, (I 0))], [(c_data_file (G_data_file.mk x5 x1.1))], ⟨0, []⟩⟩) (by kernel_rfl) (by kernel_rfl) ?_
        show AWp _ _ _ _
        refine awp_ret ?_
        cases h
        exact aresN rfl (L2.cons (rcellL rfl rfl rfl (partA Tryz.underlying61 rfl s_61 (by decide) (Nat.le_of_ble_eq_true rfl) rfl)) (L2.cons (rtmp rfl (eV rfl)) L2.nil)) rfl

end Go.Proofs
