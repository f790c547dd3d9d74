/- Pure models of functions of the program, and that its code does what they say: walk files missing$1, api Node] at a closure, api Node] at a closure, walk files missing, walk files find, walk Place. Written by a program. -/
import Derived.Test.YtlcclhkbmkmfkaaDoorREO1
import Derived.Test.YtlcclhkbmkmfkaaDoorREO2
import Derived.Test.YtlcclhkbmkmfkaaDoorREOB
set_option maxRecDepth 20000
set_option maxHeartbeats 4000000
namespace Go.Proofs
open Go Go.Fhl
set_option linter.unusedVariables false
set_option linter.unusedSimpArgs false
noncomputable def M_walk_files_missing_1 (t0 : G_api_Node) : Option Bool :=
  some (t0.Kind == 3)
theorem ok_walk_files_missing_1 (t0 : G_api_Node) (r : Bool) (h : M_walk_files_missing_1 t0 = some r) : FFn Tryd.prog 67 [(Value.agg (c_api_Node t0).toArray)] (Bo r) := by
  refine FFn.of_body (n := 6) Tryd.func67 rfl Tryd.ntmps67 rfl rfl rfl rfl ?_
  show AWp _ _ _ ⟨6, 0, [(0, (Value.agg (c_api_Node t0).toArray))], [], ⟨0, []⟩⟩
  unfold M_walk_files_missing_1 at h
  refine awp_seq ?_
  refine awp_region ?_
  refine arun_do rfl rfl rfl (ex_box (vx := (Value.agg (c_api_Node t0).toArray)) (cs := (c_api_Node t0)) (k := 0) (L' := [(c_api_Node t0)]) (eV (v := (Value.agg (c_api_Node t0).toArray)) rfl) rfl rfl rfl) ?_
  refine arun_do rfl rfl rfl (ex_assign (eV (v := (Bo false)) rfl)) ?_
  refine arun_keepE [1] 1 0 (st' := ⟨6, 0, [(1, (LP 0 0))], [(c_api_Node t0)], ⟨0, []⟩⟩) (by kernel_rfl) (by kernel_rfl) ?_
  show AWp _ _ _ _
  refine awp_seq ?_
  refine awp_region ?_
  refine arun_do rfl rfl rfl (ex_fieldAddr (v := (LP 0 0)) Tryd.underlying39 rfl s_3 (by decide) rfl rfl) ?_
  refine arun_do rfl rfl rfl (tx_ldL1 (v := (I t0.Kind)) Tryd.underlying3 rfl rfl rfl rfl) ?_
  refine arun_do rfl rfl rfl (ex_bin (vx := (I t0.Kind)) (vy := (I 3)) rfl rfl eqlI_ok) ?_
  refine arun_do rfl rfl rfl (ex_assign (eV (v := (Bo (t0.Kind == 3))) rfl)) ?_
  refine arun_keepE [2] 0 0 (st' := ⟨6, 0, [(2, (Bo (t0.Kind == 3)))], [], ⟨0, []⟩⟩) (by kernel_rfl) (by kernel_rfl) ?_
  show AWp _ _ _ _
  refine awp_ret ?_
  cases h
  exact ares1 (rtmp rfl (eV rfl))

noncomputable def M_slices_IndexFunc_api_Set_api_Node_c67_l1 (t0 : (List G_api_Node)) : Nat → Int → Option Int
  | 0, _ => none
  | n1 + 1, v1 =>
  cond (decide (v1 < (t0.length : Int))) (Option.bind (getI t0 v1) fun (x3 : G_api_Node) => Option.bind (M_walk_files_missing_1 x3) fun (x4 : Bool) => cond x4 (some v1) ((M_slices_IndexFunc_api_Set_api_Node_c67_l1 t0 n1) (w64 (v1 + 1)))) (some (-1))
noncomputable def M_slices_IndexFunc_api_Set_api_Node_c67 (t0 : (List G_api_Node)) : Option Int :=
  M_slices_IndexFunc_api_Set_api_Node_c67_l1 t0 fuel 0
theorem ok_slices_IndexFunc_api_Set_api_Node_c67 (t0 : (List G_api_Node)) (r : Int) (h : M_slices_IndexFunc_api_Set_api_Node_c67 t0 = some r) : FFn Tryd.prog 31 [(SL 5 c_api_Node t0), (Value.func (Fn.func 67) #[] #[])] (I r) := by
  refine FFn.of_body (n := 19) Tryd.func31 rfl Tryd.ntmps31 rfl rfl rfl rfl ?_
  show AWp _ _ _ ⟨19, 0, [(0, (SL 5 c_api_Node t0)), (1, (Value.func (Fn.func 67) #[] #[]))], [], ⟨0, []⟩⟩
  unfold M_slices_IndexFunc_api_Set_api_Node_c67 at h
  refine awp_seq ?_
  refine awp_region ?_
  refine arun_do rfl rfl rfl (ex_assign (eV (v := (I 0)) rfl)) ?_
  refine arun_keepE [0, 1] 0 0 (st' := ⟨19, 0, [(0, (SL 5 c_api_Node t0)), (1, (Value.func (Fn.func 67) #[] #[]))], [], ⟨0, []⟩⟩) (by kernel_rfl) (by kernel_rfl) ?_
  show AWp _ _ _ _
  refine awp_seq ?_
  refine awp_seq ?_
  refine awp_region ?_
  refine arun_do rfl rfl rfl (ex_move (eV (v := (SL 5 c_api_Node t0)) rfl)) ?_
  refine arun_do rfl rfl rfl (tx_lenD (xs := t0) ce_api_Node Tryd.underlying25 rfl) ?_
  refine arun_do rfl rfl rfl (ex_move (eV (v := (I 0)) rfl)) ?_
  refine arun_keepE [0, 1, 7, 8] 0 0 (st' := ⟨19, 0, [(0, (SL 5 c_api_Node t0)), (1, (Value.func (Fn.func 67) #[] #[])), (7, (I (t0.length : Int))), (8, (I 0))], [], ⟨0, []⟩⟩) (by kernel_rfl) (by kernel_rfl) ?_
  show AWp _ _ _ _
  refine awp_block ?_
  refine awp_loop (fun n s => ∃ (v1 : Int), s = ⟨19, 0, [(0, (SL 5 c_api_Node t0)), (1, (Value.func (Fn.func 67) #[] #[])), (7, (I (t0.length : Int))), (8, (I v1))], [], ⟨0, []⟩⟩ ∧ M_slices_IndexFunc_api_Set_api_Node_c67_l1 t0 n v1 = some r) fuel (Exists.intro 0 (And.intro rfl h)) ?_
  rintro n s ⟨v1, rfl, h⟩ -
  cases n with
  | zero => cases h
  | succ n1 =>
    unfold M_slices_IndexFunc_api_Set_api_Node_c67_l1 at h
    refine awp_seq ?_
    refine awp_region ?_
    refine arun_do rfl rfl rfl (ex_bin (vx := (I v1)) (vy := (I (t0.length : Int))) rfl rfl lssI_ok) ?_
    refine arun_keepE [0, 1, 7, 8, 9] 0 0 (st' := ⟨19, 0, [(0, (SL 5 c_api_Node t0)), (1, (Value.func (Fn.func 67) #[] #[])), (7, (I (t0.length : Int))), (8, (I v1)), (9, (Bo (decide (v1 < (t0.length : Int)))))], [], ⟨0, []⟩⟩) (by kernel_rfl) (by kernel_rfl) ?_
    show AWp _ _ _ _
    refine awp_seq ?_
    rcases Bool.eq_false_or_eq_true (decide (v1 < (t0.length : Int))) with hb2 | hb2
    · rw [condT hb2] at h
      refine awp_condT (boT hb2) ?_
      refine awp_skip ?_
      show AWp _ _ _ _
      refine awp_seq ?_
      refine awp_block ?_
      refine awp_seq ?_
      refine awp_region ?_
      refine arun_do rfl rfl rfl (ex_move (eV (v := (I v1)) rfl)) ?_
      refine arun_do rfl rfl rfl (ex_assign (eV (v := (I v1)) rfl)) ?_
      refine arun_keepE [0, 1, 5, 7, 8] 0 0 (st' := ⟨19, 0, [(0, (SL 5 c_api_Node t0)), (1, (Value.func (Fn.func 67) #[] #[])), (5, (I v1)), (7, (I (t0.length : Int))), (8, (I v1))], [], ⟨0, []⟩⟩) (by kernel_rfl) (by kernel_rfl) ?_
      show AWp _ _ _ _
      refine awp_seq ?_
      refine awp_region ?_
      refine arun_do rfl rfl rfl (ex_move (eV (v := (Value.func (Fn.func 67) #[] #[])) rfl)) ?_
      refine arun_do rfl rfl rfl (ex_move (eV (v := (SL 5 c_api_Node t0)) rfl)) ?_
      refine arun_do rfl rfl rfl (ex_move (eV (v := (I v1)) rfl)) ?_
      obtain ⟨x3, hx3, h⟩ := bindS h
      refine arun_do rfl rfl rfl (tx_idxD (c := c_api_Node) (xs := t0) (i := v1) ce_api_Node Tryd.underlying25 s_39 rfl rfl hx3) ?_
      refine arun_do rfl rfl rfl (tx_ldDA (vs := (c_api_Node x3)) Tryd.underlying39 rfl s_39 (by decide) rfl (Nat.le_of_ble_eq_true rfl) rfl) ?_
      obtain ⟨x4, hx4, h⟩ := bindS h
      refine arun_do rfl rfl rfl (ex_call0 (vs := [(Value.agg (c_api_Node x3).toArray)]) (v := (Bo x4)) rfl en_67 (cargs (evs rfl evs_nil)) rfl (ok_walk_files_missing_1 x3 x4 hx4) rfl) ?_
      refine arun_keepE [0, 1, 5, 7, 8, 16] 0 0 (st' := ⟨19, 0, [(0, (SL 5 c_api_Node t0)), (1, (Value.func (Fn.func 67) #[] #[])), (5, (I v1)), (7, (I (t0.length : Int))), (8, (I v1)), (16, (Bo x4))], [], ⟨0, []⟩⟩) (by kernel_rfl) (by kernel_rfl) ?_
      show AWp _ _ _ _
      rcases Bool.eq_false_or_eq_true x4 with hb5 | hb5
      · rw [condT hb5] at h
        refine awp_condT (boT hb5) ?_
        refine awp_seq ?_
        refine awp_region ?_
        refine arun_do rfl rfl rfl (ex_move (eV (v := (I v1)) rfl)) ?_
        refine arun_do rfl rfl rfl (ex_assign (eV (v := (I v1)) rfl)) ?_
        refine arun_keepE [4] 0 0 (st' := ⟨19, 0, [(4, (I v1))], [], ⟨0, []⟩⟩) (by kernel_rfl) (by kernel_rfl) ?_
        show AWp _ _ _ _
        refine awp_ret ?_
        cases h
        exact ares1 (rtmp rfl (eV rfl))
      · rw [condF hb5] at h
        refine awp_condF (boF hb5) ?_
        refine awp_skip ?_
        show AWp _ _ _ _
        refine awp_region ?_
        refine arun_do rfl rfl rfl (ex_bin (vx := (I v1)) (vy := (I 1)) rfl rfl addI_ok) ?_
        refine arun_do rfl rfl rfl (ex_move (eV (v := (I (w64 (v1 + 1)))) rfl)) ?_
        refine arun_keepE [0, 1, 7, 8] 0 0 (st' := ⟨19, 0, [(0, (SL 5 c_api_Node t0)), (1, (Value.func (Fn.func 67) #[] #[])), (7, (I (t0.length : Int))), (8, (I (w64 (v1 + 1))))], [], ⟨0, []⟩⟩) (by kernel_rfl) (by kernel_rfl) ?_
        exact Exists.intro n1 (And.intro (Nat.lt_succ_self _) (Exists.intro (w64 (v1 + 1)) (And.intro rfl h)))
    · rw [condF hb2] at h
      refine awp_condF (boF hb2) ?_
      refine awp_exit ?_
      show AWp _ _ _ _
      refine awp_seq ?_
      refine awp_region ?_
      refine arun_do rfl rfl rfl (ex_assign (eV (v := (I (-1))) rfl)) ?_
      refine arun_keepE [4] 0 0 (st' := ⟨19, 0, [(4, (I (-1)))], [], ⟨0, []⟩⟩) (by kernel_rfl) (by kernel_rfl) ?_
      show AWp _ _ _ _
      refine awp_ret ?_
      cases h
      exact ares1 (rtmp rfl (eV rfl))

noncomputable def M_slices_ContainsFunc_api_Set_api_Node_c67 (t0 : (List G_api_Node)) : Option Bool :=
  Option.bind (M_slices_IndexFunc_api_Set_api_Node_c67 t0) fun (x1 : Int) => some (decide (x1 ≥ 0))
theorem ok_slices_ContainsFunc_api_Set_api_Node_c67 (t0 : (List G_api_Node)) (r : Bool) (h : M_slices_ContainsFunc_api_Set_api_Node_c67 t0 = some r) : FFn Tryd.prog 66 [(SL 5 c_api_Node t0), (Value.func (Fn.func 67) #[] #[])] (Bo r) := by
  refine FFn.of_body (n := 9) Tryd.func66 rfl Tryd.ntmps66 rfl rfl rfl rfl ?_
  show AWp _ _ _ ⟨9, 0, [(0, (SL 5 c_api_Node t0)), (1, (Value.func (Fn.func 67) #[] #[]))], [], ⟨0, []⟩⟩
  unfold M_slices_ContainsFunc_api_Set_api_Node_c67 at h
  refine awp_seq ?_
  refine awp_region ?_
  refine arun_do rfl rfl rfl (ex_assign (eV (v := (Bo false)) rfl)) ?_
  refine arun_keepE [0, 1] 0 0 (st' := ⟨9, 0, [(0, (SL 5 c_api_Node t0)), (1, (Value.func (Fn.func 67) #[] #[]))], [], ⟨0, []⟩⟩) (by kernel_rfl) (by kernel_rfl) ?_
  show AWp _ _ _ _
  refine awp_seq ?_
  refine awp_region ?_
  refine arun_do rfl rfl rfl (ex_move (eV (v := (SL 5 c_api_Node t0)) rfl)) ?_
  refine arun_do rfl rfl rfl (ex_move (eV (v := (Value.func (Fn.func 67) #[] #[])) rfl)) ?_
  obtain ⟨x1, hx1, h⟩ := bindS h
  refine arun_do rfl rfl rfl (ex_callA (vs := [(SL 5 c_api_Node t0), (Value.func (Fn.func 67) #[] #[])]) (v := (I x1)) rfl en_31 (cargs (evs rfl (evs rfl evs_nil))) rfl (ok_slices_IndexFunc_api_Set_api_Node_c67 t0 x1 hx1) rfl) ?_
  refine arun_do rfl rfl rfl (ex_bin (vx := (I x1)) (vy := (I 0)) rfl rfl geqI_ok) ?_
  refine arun_do rfl rfl rfl (ex_assign (eV (v := (Bo (decide (x1 ≥ 0)))) rfl)) ?_
  refine arun_keepE [4] 0 0 (st' := ⟨9, 0, [(4, (Bo (decide (x1 ≥ 0))))], [], ⟨0, []⟩⟩) (by kernel_rfl) (by kernel_rfl) ?_
  show AWp _ _ _ _
  refine awp_ret ?_
  cases h
  exact ares1 (rtmp rfl (eV rfl))

noncomputable def M_walk_files_missing (t0 : G_walk_files) : Option Int :=
  Option.bind (M_slices_ContainsFunc_api_Set_api_Node_c67 t0.Set) fun (x1 : Bool) => cond x1 (some 12) (some 2)
theorem ok_walk_files_missing (t0 : G_walk_files) (r : Int) (h : M_walk_files_missing t0 = some r) : FFn Tryd.prog 52 [(Value.agg (c_walk_files t0).toArray)] (I r) := by
  refine FFn.of_body (n := 6) Tryd.func52 rfl Tryd.ntmps52 rfl rfl rfl rfl ?_
  show AWp _ _ _ ⟨6, 0, [(0, (Value.agg (c_walk_files t0).toArray))], [], ⟨0, []⟩⟩
  unfold M_walk_files_missing at h
  refine awp_seq ?_
  refine awp_region ?_
  refine arun_do rfl rfl rfl (ex_box (vx := (Value.agg (c_walk_files t0).toArray)) (cs := (c_walk_files t0)) (k := 0) (L' := [(c_walk_files t0)]) (eV (v := (Value.agg (c_walk_files t0).toArray)) rfl) rfl rfl rfl) ?_
  refine arun_do rfl rfl rfl (ex_assign (eV (v := (I 0)) rfl)) ?_
  refine arun_keepE [1] 1 0 (st' := ⟨6, 0, [(1, (LP 0 0))], [(c_walk_files t0)], ⟨0, []⟩⟩) (by kernel_rfl) (by kernel_rfl) ?_
  show AWp _ _ _ _
  refine awp_seq ?_
  refine awp_seq ?_
  refine awp_region ?_
  refine arun_do rfl rfl rfl (ex_fieldAddr (v := (LP 0 0)) Tryd.underlying71 rfl s_25 (by decide) rfl rfl) ?_
  refine arun_do rfl rfl rfl (tx_ldL1 (v := (SL 5 c_api_Node t0.Set)) Tryd.underlying25 rfl rfl rfl rfl) ?_
  obtain ⟨x1, hx1, h⟩ := bindS h
  refine arun_do rfl rfl rfl (ex_callA (vs := [(SL 5 c_api_Node t0.Set), (FN 67)]) (v := (Bo x1)) rfl en_66 (cargs (evs rfl (evs rfl evs_nil))) rfl (ok_slices_ContainsFunc_api_Set_api_Node_c67 t0.Set x1 hx1) rfl) ?_
  refine arun_keepE [5] 0 0 (st' := ⟨6, 0, [(5, (Bo x1))], [], ⟨0, []⟩⟩) (by kernel_rfl) (by kernel_rfl) ?_
  show AWp _ _ _ _
  rcases Bool.eq_false_or_eq_true x1 with hb2 | hb2
  · rw [condT hb2] at h
    refine awp_condT (boT hb2) ?_
    refine awp_seq ?_
    refine awp_region ?_
    refine arun_do rfl rfl rfl (ex_assign (eV (v := (I 12)) rfl)) ?_
    refine arun_keepE [2] 0 0 (st' := ⟨6, 0, [(2, (I 12))], [], ⟨0, []⟩⟩) (by kernel_rfl) (by kernel_rfl) ?_
    show AWp _ _ _ _
    refine awp_ret ?_
    cases h
    exact ares1 (rtmp rfl (eV rfl))
  · rw [condF hb2] at h
    refine awp_condF (boF hb2) ?_
    refine awp_skip ?_
    show AWp _ _ _ _
    refine awp_seq ?_
    refine awp_region ?_
    refine arun_do rfl rfl rfl (ex_assign (eV (v := (I 2)) rfl)) ?_
    refine arun_keepE [2] 0 0 (st' := ⟨6, 0, [(2, (I 2))], [], ⟨0, []⟩⟩) (by kernel_rfl) (by kernel_rfl) ?_
    show AWp _ _ _ _
    refine awp_ret ?_
    cases h
    exact ares1 (rtmp rfl (eV rfl))

noncomputable def M_walk_files_find_l1 (t0 : G_walk_files) (t1 : (List Str)) : Nat → Int → Int → Option (Int × Int)
  | 0, _, _ => none
  | n1 + 1, v1, v2 =>
  cond (decide (v2 < (t1.length : Int))) (Option.bind (getI t1 v2) fun (x4 : Str) => Option.bind (M_walk_files_at t0 v1) fun (x5 : G_api_Node) => cond (x5.Kind != 2) (some (0, 5)) (Option.bind (M_node_Kid t0.Set v1 x4) fun (x7 : (Int × Bool)) => cond (!x7.2) (Option.bind (M_walk_files_missing t0) fun (x9 : Int) => some (0, x9)) ((M_walk_files_find_l1 t0 t1 n1) x7.1 (w64 (v2 + 1))))) (some (v1, 0))
noncomputable def M_walk_files_find (t0 : G_walk_files) (t1 : (List Str)) : Option (Int × Int) :=
  M_walk_files_find_l1 t0 t1 fuel 0 0
theorem ok_walk_files_find (t0 : G_walk_files) (t1 : (List Str)) (r : (Int × Int)) (h : M_walk_files_find t0 t1 = some r) : FFn Tryd.prog 35 [(Value.agg (c_walk_files t0).toArray), (SL 1 cS t1)] (Value.tuple #[(I r.1), (I r.2)]) := by
  refine FFn.of_body (n := 37) Tryd.func35 rfl Tryd.ntmps35 rfl rfl rfl rfl ?_
  show AWp _ _ _ ⟨37, 0, [(0, (Value.agg (c_walk_files t0).toArray)), (1, (SL 1 cS t1))], [], ⟨0, []⟩⟩
  unfold M_walk_files_find at h
  refine awp_seq ?_
  refine awp_region ?_
  refine arun_do rfl rfl rfl (ex_box (vx := (Value.agg (c_walk_files t0).toArray)) (cs := (c_walk_files t0)) (k := 0) (L' := [(c_walk_files t0)]) (eV (v := (Value.agg (c_walk_files t0).toArray)) rfl) rfl rfl rfl) ?_
  refine arun_do rfl rfl rfl (ex_assign (eV (v := (I 0)) rfl)) ?_
  refine arun_do rfl rfl rfl (ex_assign (eV (v := (I 0)) rfl)) ?_
  refine arun_keepE [1, 2] 1 0 (st' := ⟨37, 0, [(1, (SL 1 cS t1)), (2, (LP 0 0))], [(c_walk_files t0)], ⟨0, []⟩⟩) (by kernel_rfl) (by kernel_rfl) ?_
  show AWp _ _ _ _
  refine awp_seq ?_
  refine awp_region ?_
  refine arun_do rfl rfl rfl (ex_assign (eV (v := (I 0)) rfl)) ?_
  refine arun_keepE [1, 2, 6] 1 0 (st' := ⟨37, 0, [(1, (SL 1 cS t1)), (2, (LP 0 0)), (6, (I 0))], [(c_walk_files t0)], ⟨0, []⟩⟩) (by kernel_rfl) (by kernel_rfl) ?_
  show AWp _ _ _ _
  refine awp_seq ?_
  refine awp_seq ?_
  refine awp_region ?_
  refine arun_do rfl rfl rfl (ex_move (eV (v := (SL 1 cS t1)) rfl)) ?_
  refine arun_do rfl rfl rfl (tx_lenD (xs := t1) ceS Tryd.underlying60 rfl) ?_
  refine arun_do rfl rfl rfl (ex_move (eV (v := (I 0)) rfl)) ?_
  refine arun_keepE [2, 6, 11, 12, 13] 1 0 (st' := ⟨37, 0, [(2, (LP 0 0)), (6, (I 0)), (11, (SL 1 cS t1)), (12, (I (t1.length : Int))), (13, (I 0))], [(c_walk_files t0)], ⟨0, []⟩⟩) (by kernel_rfl) (by kernel_rfl) ?_
  show AWp _ _ _ _
  refine awp_block ?_
  refine awp_loop (fun n s => ∃ (v1 : Int) (v2 : Int), s = ⟨37, 0, [(2, (LP 0 0)), (6, (I v1)), (11, (SL 1 cS t1)), (12, (I (t1.length : Int))), (13, (I v2))], [(c_walk_files t0)], ⟨0, []⟩⟩ ∧ M_walk_files_find_l1 t0 t1 n v1 v2 = some r) fuel (Exists.intro 0 (Exists.intro 0 (And.intro rfl h))) ?_
  rintro n s ⟨v1, v2, rfl, h⟩ -
  cases n with
  | zero => cases h
  | succ n1 =>
    unfold M_walk_files_find_l1 at h
    refine awp_seq ?_
    refine awp_region ?_
    refine arun_do rfl rfl rfl (ex_bin (vx := (I v2)) (vy := (I (t1.length : Int))) rfl rfl lssI_ok) ?_
    refine arun_keepE [2, 6, 11, 12, 13, 14] 1 0 (st' := ⟨37, 0, [(2, (LP 0 0)), (6, (I v1)), (11, (SL 1 cS t1)), (12, (I (t1.length : Int))), (13, (I v2)), (14, (Bo (decide (v2 < (t1.length : Int)))))], [(c_walk_files t0)], ⟨0, []⟩⟩) (by kernel_rfl) (by kernel_rfl) ?_
    show AWp _ _ _ _
    refine awp_seq ?_
    rcases Bool.eq_false_or_eq_true (decide (v2 < (t1.length : Int))) with hb3 | hb3
    · rw [condT hb3] at h
      refine awp_condT (boT hb3) ?_
      refine awp_skip ?_
      show AWp _ _ _ _
      refine awp_seq ?_
      refine awp_block ?_
      refine awp_seq ?_
      refine awp_region ?_
      obtain ⟨x4, hx4, h⟩ := bindS h
      refine arun_do rfl rfl rfl (tx_idxD (c := cS) (xs := t1) (i := v2) ceS Tryd.underlying60 s_9 rfl rfl hx4) ?_
      refine arun_do rfl rfl rfl (tx_ldD1 (v := (S x4)) Tryd.underlying9 rfl rfl rfl) ?_
      refine arun_do rfl rfl rfl (ex_assign (eV (v := (S x4)) rfl)) ?_
      refine arun_keepE [2, 6, 8, 11, 12, 13] 1 0 (st' := ⟨37, 0, [(2, (LP 0 0)), (6, (I v1)), (8, (S x4)), (11, (SL 1 cS t1)), (12, (I (t1.length : Int))), (13, (I v2))], [(c_walk_files t0)], ⟨0, []⟩⟩) (by kernel_rfl) (by kernel_rfl) ?_
      show AWp _ _ _ _
      refine awp_seq ?_
      refine awp_seq ?_
      refine awp_region ?_
      refine arun_do rfl rfl rfl (tx_ldLA (vs := (c_walk_files t0)) Tryd.underlying71 rfl s_71 (by decide) rfl rfl rfl rfl) ?_
      refine arun_do rfl rfl rfl (ex_move (eV (v := (I v1)) rfl)) ?_
      obtain ⟨x5, hx5, h⟩ := bindS h
      refine arun_do rfl rfl rfl (ex_call0 (vs := [(Value.agg (c_walk_files t0).toArray), (I v1)]) (v := (Value.agg (c_api_Node x5).toArray)) rfl en_39 (cargs (evs rfl (evs rfl evs_nil))) rfl (ok_walk_files_at t0 v1 x5 hx5) rfl) ?_
      refine arun_do rfl rfl rfl (ex_field (vx := (Value.agg (c_api_Node x5).toArray)) (v := (I x5.Kind)) rfl (by kernel_rfl)) ?_
      refine arun_do rfl rfl rfl (ex_bin (vx := (I x5.Kind)) (vy := (I 2)) rfl rfl neqI_ok) ?_
      refine arun_keepE [2, 6, 8, 11, 12, 13, 21] 1 0 (st' := ⟨37, 0, [(2, (LP 0 0)), (6, (I v1)), (8, (S x4)), (11, (SL 1 cS t1)), (12, (I (t1.length : Int))), (13, (I v2)), (21, (Bo (x5.Kind != 2)))], [(c_walk_files t0)], ⟨0, []⟩⟩) (by kernel_rfl) (by kernel_rfl) ?_
      show AWp _ _ _ _
      rcases Bool.eq_false_or_eq_true (x5.Kind != 2) with hb6 | hb6
      · rw [condT hb6] at h
        refine awp_condT (boT hb6) ?_
        refine awp_seq ?_
        refine awp_region ?_
        refine arun_do rfl rfl rfl (ex_assign (eV (v := (I 0)) rfl)) ?_
        refine arun_do rfl rfl rfl (ex_assign (eV (v := (I 5)) rfl)) ?_
        refine arun_keepE [4, 5] 0 0 (st' := ⟨37, 0, [(4, (I 0)), (5, (I 5))], [], ⟨0, []⟩⟩) (by kernel_rfl) (by kernel_rfl) ?_
        show AWp _ _ _ _
        refine awp_ret ?_
        cases h
        exact aresN rfl (L2.cons (rtmp rfl (eV rfl)) (L2.cons (rtmp rfl (eV rfl)) L2.nil)) rfl
      · rw [condF hb6] at h
        refine awp_condF (boF hb6) ?_
        refine awp_skip ?_
        show AWp _ _ _ _
        refine awp_seq ?_
        refine awp_region ?_
        refine arun_do rfl rfl rfl (ex_fieldAddr (v := (LP 0 0)) Tryd.underlying71 rfl s_25 (by decide) rfl rfl) ?_
        refine arun_do rfl rfl rfl (tx_ldL1 (v := (SL 5 c_api_Node t0.Set)) Tryd.underlying25 rfl rfl rfl rfl) ?_
        refine arun_do rfl rfl rfl (ex_move (eV (v := (I v1)) rfl)) ?_
        refine arun_do rfl rfl rfl (ex_move (eV (v := (S x4)) rfl)) ?_
        obtain ⟨x7, hx7, h⟩ := bindS h
        refine arun_do rfl rfl rfl (ex_call0 (vs := [(SL 5 c_api_Node t0.Set), (I v1), (S x4)]) (v := (Value.tuple #[(I x7.1), (Bo x7.2)])) rfl en_33 (cargs (evs rfl (evs rfl (evs rfl evs_nil)))) rfl (ok_node_Kid t0.Set v1 x4 x7 hx7) rfl) ?_
        refine arun_do rfl rfl rfl (ex_move (eV (v := (Value.tuple #[(I x7.1), (Bo x7.2)])) rfl)) ?_
        refine arun_do rfl rfl rfl (ex_extract (vx := (Value.tuple #[(I x7.1), (Bo x7.2)])) (v := (I x7.1)) rfl rfl) ?_
        refine arun_do rfl rfl rfl (ex_extract (vx := (Value.tuple #[(I x7.1), (Bo x7.2)])) (v := (Bo x7.2)) rfl rfl) ?_
        refine arun_do rfl rfl rfl (ex_assign (eV (v := (I x7.1)) rfl)) ?_
        refine arun_do rfl rfl rfl (ex_assign (eV (v := (Bo x7.2)) rfl)) ?_
        refine arun_keepE [2, 9, 10, 11, 12, 13] 1 0 (st' := ⟨37, 0, [(2, (LP 0 0)), (9, (I x7.1)), (10, (Bo x7.2)), (11, (SL 1 cS t1)), (12, (I (t1.length : Int))), (13, (I v2))], [(c_walk_files t0)], ⟨0, []⟩⟩) (by kernel_rfl) (by kernel_rfl) ?_
        show AWp _ _ _ _
        refine awp_seq ?_
        refine awp_seq ?_
        refine awp_region ?_
        refine arun_do rfl rfl rfl (ex_move (eV (v := (Bo x7.2)) rfl)) ?_
        refine arun_do rfl rfl rfl (ex_un (vx := (Bo x7.2)) rfl notB_ok) ?_
        refine arun_keepE [2, 9, 11, 12, 13, 31] 1 0 (st' := ⟨37, 0, [(2, (LP 0 0)), (9, (I x7.1)), (11, (SL 1 cS t1)), (12, (I (t1.length : Int))), (13, (I v2)), (31, (Bo (!x7.2)))], [(c_walk_files t0)], ⟨0, []⟩⟩) (by kernel_rfl) (by kernel_rfl) ?_
        show AWp _ _ _ _
        rcases Bool.eq_false_or_eq_true (!x7.2) with hb8 | hb8
        · rw [condT hb8] at h
          refine awp_condT (boT hb8) ?_
          refine awp_seq ?_
          refine awp_region ?_
          refine arun_do rfl rfl rfl (tx_ldLA (vs := (c_walk_files t0)) Tryd.underlying71 rfl s_71 (by decide) rfl rfl rfl rfl) ?_
          obtain ⟨x9, hx9, h⟩ := bindS h
          refine arun_do rfl rfl rfl (ex_call0 (vs := [(Value.agg (c_walk_files t0).toArray)]) (v := (I x9)) rfl en_52 (cargs (evs rfl evs_nil)) rfl (ok_walk_files_missing t0 x9 hx9) rfl) ?_
          refine arun_do rfl rfl rfl (ex_assign (eV (v := (I 0)) rfl)) ?_
          refine arun_do rfl rfl rfl (ex_assign (eV (v := (I x9)) rfl)) ?_
          refine arun_keepE [4, 5] 0 0 (st' := ⟨37, 0, [(4, (I 0)), (5, (I x9))], [], ⟨0, []⟩⟩) (by kernel_rfl) (by kernel_rfl) ?_
          show AWp _ _ _ _
          refine awp_ret ?_
          cases h
          exact aresN rfl (L2.cons (rtmp rfl (eV rfl)) (L2.cons (rtmp rfl (eV rfl)) L2.nil)) rfl
        · rw [condF hb8] at h
          refine awp_condF (boF hb8) ?_
          refine awp_skip ?_
          show AWp _ _ _ _
          refine awp_region ?_
          refine arun_do rfl rfl rfl (ex_move (eV (v := (I x7.1)) rfl)) ?_
          refine arun_do rfl rfl rfl (ex_assign (eV (v := (I x7.1)) rfl)) ?_
          refine arun_keepE [2, 6, 11, 12, 13] 1 0 (st' := ⟨37, 0, [(2, (LP 0 0)), (6, (I x7.1)), (11, (SL 1 cS t1)), (12, (I (t1.length : Int))), (13, (I v2))], [(c_walk_files t0)], ⟨0, []⟩⟩) (by kernel_rfl) (by kernel_rfl) ?_
          show AWp _ _ _ _
          refine awp_region ?_
          refine arun_do rfl rfl rfl (ex_bin (vx := (I v2)) (vy := (I 1)) rfl rfl addI_ok) ?_
          refine arun_do rfl rfl rfl (ex_move (eV (v := (I (w64 (v2 + 1)))) rfl)) ?_
          refine arun_keepE [2, 6, 11, 12, 13] 1 0 (st' := ⟨37, 0, [(2, (LP 0 0)), (6, (I x7.1)), (11, (SL 1 cS t1)), (12, (I (t1.length : Int))), (13, (I (w64 (v2 + 1))))], [(c_walk_files t0)], ⟨0, []⟩⟩) (by kernel_rfl) (by kernel_rfl) ?_
          exact Exists.intro n1 (And.intro (Nat.lt_succ_self _) (Exists.intro x7.1 (Exists.intro (w64 (v2 + 1)) (And.intro rfl h))))
    · rw [condF hb3] at h
      refine awp_condF (boF hb3) ?_
      refine awp_exit ?_
      show AWp _ _ _ _
      refine awp_seq ?_
      refine awp_region ?_
      refine arun_do rfl rfl rfl (ex_move (eV (v := (I v1)) rfl)) ?_
      refine arun_do rfl rfl rfl (ex_assign (eV (v := (I v1)) rfl)) ?_
      refine arun_do rfl rfl rfl (ex_assign (eV (v := (I 0)) rfl)) ?_
      refine arun_keepE [4, 5] 0 0 (st' := ⟨37, 0, [(4, (I v1)), (5, (I 0))], [], ⟨0, []⟩⟩) (by kernel_rfl) (by kernel_rfl) ?_
      show AWp _ _ _ _
      refine awp_ret ?_
      cases h
      exact aresN rfl (L2.cons (rtmp rfl (eV rfl)) (L2.cons (rtmp rfl (eV rfl)) L2.nil)) rfl

noncomputable def M_walk_Place (t0 : (List G_api_Node)) (t1 : Str) : Option (Int × Str × Int) :=
  Option.bind (M_name_Parts t1) fun (x1 : ((List Str) × Bool)) => cond ((!x1.2) || ((x1.1.length : Int) == 0)) (some (0, [], 1)) (Option.bind (slL x1.1 0 (w64 ((x1.1.length : Int) - 1))) fun (x3 : (List Str)) => Option.bind (M_walk_files_find (G_walk_files.mk t0) x3) fun (x4 : (Int × Int)) => cond (x4.2 != 0) (some (0, [], x4.2)) (Option.bind (M_walk_files_at (G_walk_files.mk t0) x4.1) fun (x6 : G_api_Node) => cond (x6.Kind != 2) (some (0, [], 5)) (Option.bind (getI x1.1 (w64 ((x1.1.length : Int) - 1))) fun (x8 : Str) => some (x4.1, x8, 0))))
theorem ok_walk_Place (t0 : (List G_api_Node)) (t1 : Str) (r : (Int × Str × Int)) (h : M_walk_Place t0 t1 = some r) : FFn Tryd.prog 30 [(SL 5 c_api_Node t0), (S t1)] (Value.tuple #[(I r.1), (S r.2.1), (I r.2.2)]) := by
  refine FFn.of_body (n := 51) Tryd.func30 rfl Tryd.ntmps30 rfl rfl rfl rfl ?_
  show AWp _ _ _ ⟨51, 0, [(0, (SL 5 c_api_Node t0)), (1, (S t1))], [], ⟨0, []⟩⟩
  unfold M_walk_Place at h
  refine awp_seq ?_
  refine awp_region ?_
  refine arun_do rfl rfl rfl (ex_assign (eV (v := (I 0)) rfl)) ?_
  refine arun_do rfl rfl rfl (ex_assign (eV (v := (S [])) rfl)) ?_
  refine arun_do rfl rfl rfl (ex_assign (eV (v := (I 0)) rfl)) ?_
  refine arun_keepE [0, 1] 0 0 (st' := ⟨51, 0, [(0, (SL 5 c_api_Node t0)), (1, (S t1))], [], ⟨0, []⟩⟩) (by kernel_rfl) (by kernel_rfl) ?_
  show AWp _ _ _ _
  refine awp_seq ?_
  refine awp_region ?_
  refine arun_do rfl rfl rfl (ex_move (eV (v := (S t1)) rfl)) ?_
  obtain ⟨x1, hx1, h⟩ := bindS h
  refine arun_do rfl rfl rfl (ex_call0 (vs := [(S t1)]) (v := (Value.tuple #[(SL 1 cS x1.1), (Bo x1.2)])) rfl en_34 (cargs (evs rfl evs_nil)) rfl (ok_name_Parts t1 x1 hx1) rfl) ?_
  refine arun_do rfl rfl rfl (ex_move (eV (v := (Value.tuple #[(SL 1 cS x1.1), (Bo x1.2)])) rfl)) ?_
  refine arun_do rfl rfl rfl (ex_extract (vx := (Value.tuple #[(SL 1 cS x1.1), (Bo x1.2)])) (v := (SL 1 cS x1.1)) rfl rfl) ?_
  refine arun_do rfl rfl rfl (ex_extract (vx := (Value.tuple #[(SL 1 cS x1.1), (Bo x1.2)])) (v := (Bo x1.2)) rfl rfl) ?_
  refine arun_do rfl rfl rfl (ex_assign (eV (v := (SL 1 cS x1.1)) rfl)) ?_
  refine arun_do rfl rfl rfl (ex_assign (eV (v := (Bo x1.2)) rfl)) ?_
  refine arun_keepE [0, 7, 8] 0 0 (st' := ⟨51, 0, [(0, (SL 5 c_api_Node t0)), (7, (SL 1 cS x1.1)), (8, (Bo x1.2))], [], ⟨0, []⟩⟩) (by kernel_rfl) (by kernel_rfl) ?_
  show AWp _ _ _ _
  refine awp_seq ?_
  refine awp_seq ?_
  refine awp_region ?_
  refine arun_do rfl rfl rfl (ex_move (eV (v := (Bo x1.2)) rfl)) ?_
  refine arun_do rfl rfl rfl (ex_un (vx := (Bo x1.2)) rfl notB_ok) ?_
  refine arun_do rfl rfl rfl (ex_move (eV (v := (Bo (!x1.2))) rfl)) ?_
  refine arun_guard (v := (SL 1 cS x1.1)) ((!x1.2) == false) rfl rfl rfl (fun hc => ex_move (eV (v := (SL 1 cS x1.1)) rfl)) ?_
  refine arun_guard (v := (I (x1.1.length : Int))) ((!x1.2) == false) rfl rfl rfl (fun hc => tx_lenD (xs := x1.1) ceS Tryd.underlying60 (cond_of hc)) ?_
  refine arun_guard (v := (Bo ((x1.1.length : Int) == 0))) ((!x1.2) == false) rfl rfl rfl (fun hc => ex_bin (vx := (I (x1.1.length : Int))) (vy := (I 0)) (cond_of hc) rfl eqlI_ok) ?_
  refine arun_do rfl rfl rfl (ex_pick rfl pkOr) ?_
  refine arun_keepE [0, 7, 22] 0 0 (st' := ⟨51, 0, [(0, (SL 5 c_api_Node t0)), (7, (SL 1 cS x1.1)), (22, (Bo ((!x1.2) || ((x1.1.length : Int) == 0))))], [], ⟨0, []⟩⟩) (by kernel_rfl) (by kernel_rfl) ?_
  show AWp _ _ _ _
  rcases Bool.eq_false_or_eq_true ((!x1.2) || ((x1.1.length : Int) == 0)) with hb2 | hb2
  · rw [condT hb2] at h
    refine awp_condT (boT hb2) ?_
    refine awp_seq ?_
    refine awp_region ?_
    refine arun_do rfl rfl rfl (ex_assign (eV (v := (I 0)) rfl)) ?_
    refine arun_do rfl rfl rfl (ex_assign (eV (v := (S [])) rfl)) ?_
    refine arun_do rfl rfl rfl (ex_assign (eV (v := (I 1)) rfl)) ?_
    refine arun_keepE [4, 5, 6] 0 0 (st' := ⟨51, 0, [(4, (I 0)), (5, (S [])), (6, (I 1))], [], ⟨0, []⟩⟩) (by kernel_rfl) (by kernel_rfl) ?_
    show AWp _ _ _ _
    refine awp_ret ?_
    cases h
    exact aresN rfl (L2.cons (rtmp rfl (eV rfl)) (L2.cons (rtmp rfl (eV rfl)) (L2.cons (rtmp rfl (eV rfl)) L2.nil))) rfl
  · rw [condF hb2] at h
    refine awp_condF (boF hb2) ?_
    refine awp_skip ?_
    show AWp _ _ _ _
    refine awp_seq ?_
    refine awp_region ?_
    refine arun_do rfl rfl rfl (ex_move (eV (v := (SL 1 cS x1.1)) rfl)) ?_
    refine arun_do rfl rfl rfl (tx_lenD (xs := x1.1) ceS Tryd.underlying60 rfl) ?_
    refine arun_do rfl rfl rfl (ex_bin (vx := (I (x1.1.length : Int))) (vy := (I 1)) rfl rfl subI_ok) ?_
    refine arun_do rfl rfl rfl (ex_assign (eV (v := (I (w64 ((x1.1.length : Int) - 1)))) rfl)) ?_
    refine arun_keepE [0, 7, 9] 0 0 (st' := ⟨51, 0, [(0, (SL 5 c_api_Node t0)), (7, (SL 1 cS x1.1)), (9, (I (w64 ((x1.1.length : Int) - 1))))], [], ⟨0, []⟩⟩) (by kernel_rfl) (by kernel_rfl) ?_
    show AWp _ _ _ _
    refine awp_seq ?_
    refine awp_region ?_
    refine arun_do rfl rfl rfl (ex_move (eV (v := (SL 5 c_api_Node t0)) rfl)) ?_
    refine arun_do rfl rfl rfl (ex_build (qs := [(0, (SL 5 c_api_Node t0))]) (v := (Value.agg (c_walk_files (G_walk_files.mk t0)).toArray)) (evp rfl evp_nil) (by kernel_rfl)) ?_
    refine arun_do rfl rfl rfl (ex_allocW (k := 0) (zs := (c_walk_files (G_walk_files.mk []))) (L' := [(c_walk_files (G_walk_files.mk []))]) z_71 rfl (by repeat (first | exact trivial | refine ⟨.inl rfl, ?_⟩ | refine ⟨.inr ⟨rfl, _, rfl⟩, ?_⟩)) rfl rfl) ?_
    refine arun_do0 rfl rfl (ex_storeL (vy := (Value.agg (c_walk_files (G_walk_files.mk t0)).toArray)) (cs := (c_walk_files (G_walk_files.mk []))) (vs := (c_walk_files (G_walk_files.mk t0))) (L' := [(c_walk_files (G_walk_files.mk t0))]) rfl (eV (v := (Value.agg (c_walk_files (G_walk_files.mk t0)).toArray)) rfl) rfl s_71 rfl (Nat.le_of_ble_eq_true rfl) (by kernel_rfl)) ?_
    refine arun_keepE [7, 9, 10] 1 0 (st' := ⟨51, 0, [(7, (SL 1 cS x1.1)), (9, (I (w64 ((x1.1.length : Int) - 1)))), (10, (LP 0 0))], [(c_walk_files (G_walk_files.mk t0))], ⟨0, []⟩⟩) (by kernel_rfl) (by kernel_rfl) ?_
    show AWp _ _ _ _
    refine awp_seq ?_
    obtain ⟨x3, hx3, h⟩ := bindS h
    obtain ⟨x4, hx4, h⟩ := bindS h
    refine awp_kn [4, 6, 7, 9, 10] 1 0 (st' := ⟨51, 0, [(4, (I x4.1)), (6, (I x4.2)), (7, (SL 1 cS x1.1)), (9, (I (w64 ((x1.1.length : Int) - 1)))), (10, (LP 0 0))], [(c_walk_files (G_walk_files.mk t0))], ⟨0, []⟩⟩) (awp_draw (T := [(Value.agg (c_walk_files (G_walk_files.mk t0)).toArray), (SL 1 cS x1.1), (I (w64 ((x1.1.length : Int) - 1))), (SL 1 cS x3), (Value.tuple #[(I x4.1), (I x4.2)]), (Value.tuple #[(I x4.1), (I x4.2)]), (I x4.1), (I x4.2), (I x4.1), (I x4.2)]) (LH := [([(c_walk_files (G_walk_files.mk t0))], ⟨0, []⟩)]) (D := [⟨[(10, none)], [], [0], false⟩, ⟨[(7, none)], [], [0], false⟩, ⟨[(9, none)], [], [0], false⟩, ⟨[(30, some 1), (31, some 2)], [1, 2], [0], false⟩, ⟨[(29, some 0), (32, some 3)], [0, 1, 2, 3], [0], false⟩, ⟨[(33, some 4)], [0, 1, 2, 3, 4], [0], false⟩, ⟨[(28, some 5)], [0, 1, 2, 3, 4, 5], [0], false⟩, ⟨[(28, some 5)], [0, 1, 2, 3, 4, 5], [0], false⟩, ⟨[(34, some 6)], [0, 1, 2, 3, 4, 5, 6], [0], false⟩, ⟨[(35, some 7)], [0, 1, 2, 3, 4, 5, 6, 7, 8], [0], false⟩]) (S := []) (plan := [0, 1, 2, 3, 4, 5, 6, 7, 8, 9]) mo (by kernel_rfl) rfl rfl rfl (dcons (dstep1 (Tm := [(10, (LP 0 0))]) (L := [(c_walk_files (G_walk_files.mk t0))]) (H := ⟨0, []⟩) rfl rfl rfl rfl rfl (astep_do rfl (tx_ldLA (vs := (c_walk_files (G_walk_files.mk t0))) Tryd.underlying71 rfl s_71 (by decide) rfl rfl rfl rfl))) (dcons (dstep1 (Tm := [(7, (SL 1 cS x1.1))]) (L := [(c_walk_files (G_walk_files.mk t0))]) (H := ⟨0, []⟩) rfl rfl rfl rfl rfl (astep_do rfl (ex_move (eV (v := (SL 1 cS x1.1)) rfl)))) (dcons (dstep1 (Tm := [(9, (I (w64 ((x1.1.length : Int) - 1))))]) (L := [(c_walk_files (G_walk_files.mk t0))]) (H := ⟨0, []⟩) rfl rfl rfl rfl rfl (astep_do rfl (ex_move (eV (v := (I (w64 ((x1.1.length : Int) - 1)))) rfl)))) (dcons (dstep1 (Tm := [(30, (SL 1 cS x1.1)), (31, (I (w64 ((x1.1.length : Int) - 1))))]) (L := [(c_walk_files (G_walk_files.mk t0))]) (H := ⟨0, []⟩) rfl rfl rfl rfl rfl (astep_do rfl (tx_slD (c := cS) (xs := x1.1) ceS Tryd.underlying60 s_9 rfl lo0 (hiX (l := (w64 ((x1.1.length : Int) - 1))) rfl) hx3))) (dcons (dstep1 (Tm := [(29, (Value.agg (c_walk_files (G_walk_files.mk t0)).toArray)), (32, (SL 1 cS x3))]) (L := [(c_walk_files (G_walk_files.mk t0))]) (H := ⟨0, []⟩) rfl rfl rfl rfl rfl (astep_do rfl (ex_call0 (vs := [(Value.agg (c_walk_files (G_walk_files.mk t0)).toArray), (SL 1 cS x3)]) (v := (Value.tuple #[(I x4.1), (I x4.2)])) rfl en_35 (cargs (evs rfl (evs rfl evs_nil))) rfl (ok_walk_files_find (G_walk_files.mk t0) x3 x4 hx4) rfl))) (dcons (dstep1 (Tm := [(33, (Value.tuple #[(I x4.1), (I x4.2)]))]) (L := [(c_walk_files (G_walk_files.mk t0))]) (H := ⟨0, []⟩) rfl rfl rfl rfl rfl (astep_do rfl (ex_move (eV (v := (Value.tuple #[(I x4.1), (I x4.2)])) rfl)))) (dcons (dstep1 (Tm := [(28, (Value.tuple #[(I x4.1), (I x4.2)]))]) (L := [(c_walk_files (G_walk_files.mk t0))]) (H := ⟨0, []⟩) rfl rfl rfl rfl rfl (astep_do rfl (ex_extract (vx := (Value.tuple #[(I x4.1), (I x4.2)])) (v := (I x4.1)) rfl rfl))) (dcons (dstep1 (Tm := [(28, (Value.tuple #[(I x4.1), (I x4.2)]))]) (L := [(c_walk_files (G_walk_files.mk t0))]) (H := ⟨0, []⟩) rfl rfl rfl rfl rfl (astep_do rfl (ex_extract (vx := (Value.tuple #[(I x4.1), (I x4.2)])) (v := (I x4.2)) rfl rfl))) (dcons (dstep1 (Tm := [(34, (I x4.1))]) (L := [(c_walk_files (G_walk_files.mk t0))]) (H := ⟨0, []⟩) rfl rfl rfl rfl rfl (astep_do rfl (ex_assign (eV (v := (I x4.1)) rfl)))) (dcons (dstep1 (Tm := [(35, (I x4.2))]) (L := [(c_walk_files (G_walk_files.mk t0))]) (H := ⟨0, []⟩) rfl rfl rfl rfl rfl (astep_do rfl (ex_assign (eV (v := (I x4.2)) rfl)))) dnil)))))))))) ⟨rfl, rfl⟩) (by kernel_rfl) (by kernel_rfl) ?_
    show AWp _ _ _ _
    refine awp_seq ?_
    refine awp_block ?_
    refine awp_seq ?_
    refine awp_region ?_
    refine arun_do rfl rfl rfl (ex_move (eV (v := (I x4.2)) rfl)) ?_
    refine arun_do rfl rfl rfl (ex_bin (vx := (I x4.2)) (vy := (I 0)) rfl rfl neqI_ok) ?_
    refine arun_do rfl rfl rfl (ex_assign (eV (v := (Bo (x4.2 != 0))) rfl)) ?_
    refine arun_keepE [4, 6, 7, 9, 10, 36] 1 0 (st' := ⟨51, 0, [(4, (I x4.1)), (6, (I x4.2)), (7, (SL 1 cS x1.1)), (9, (I (w64 ((x1.1.length : Int) - 1)))), (10, (LP 0 0)), (36, (Bo (x4.2 != 0)))], [(c_walk_files (G_walk_files.mk t0))], ⟨0, []⟩⟩) (by kernel_rfl) (by kernel_rfl) ?_
    show AWp _ _ _ _
    rcases Bool.eq_false_or_eq_true (x4.2 != 0) with hb5 | hb5
    · rw [condT hb5] at h
      refine awp_condT (boT hb5) ?_
      refine awp_seq ?_
      refine awp_region ?_
      refine arun_do rfl rfl rfl (ex_move (eV (v := (I x4.2)) rfl)) ?_
      refine arun_do rfl rfl rfl (ex_assign (eV (v := (I 0)) rfl)) ?_
      refine arun_do rfl rfl rfl (ex_assign (eV (v := (S [])) rfl)) ?_
      refine arun_do rfl rfl rfl (ex_assign (eV (v := (I x4.2)) rfl)) ?_
      refine arun_keepE [4, 5, 6] 0 0 (st' := ⟨51, 0, [(4, (I 0)), (5, (S [])), (6, (I x4.2))], [], ⟨0, []⟩⟩) (by kernel_rfl) (by kernel_rfl) ?_
      show AWp _ _ _ _
      refine awp_ret ?_
      cases h
      exact aresN rfl (L2.cons (rtmp rfl (eV rfl)) (L2.cons (rtmp rfl (eV rfl)) (L2.cons (rtmp rfl (eV rfl)) L2.nil))) rfl
    · rw [condF hb5] at h
      refine awp_condF (boF hb5) ?_
      refine awp_seq ?_
      refine awp_region ?_
      refine arun_do rfl rfl rfl (tx_ldLA (vs := (c_walk_files (G_walk_files.mk t0))) Tryd.underlying71 rfl s_71 (by decide) rfl rfl rfl rfl) ?_
      refine arun_do rfl rfl rfl (ex_move (eV (v := (I x4.1)) rfl)) ?_
      obtain ⟨x6, hx6, h⟩ := bindS h
      refine arun_do rfl rfl rfl (ex_call0 (vs := [(Value.agg (c_walk_files (G_walk_files.mk t0)).toArray), (I x4.1)]) (v := (Value.agg (c_api_Node x6).toArray)) rfl en_39 (cargs (evs rfl (evs rfl evs_nil))) rfl (ok_walk_files_at (G_walk_files.mk t0) x4.1 x6 hx6) rfl) ?_
      refine arun_do rfl rfl rfl (ex_field (vx := (Value.agg (c_api_Node x6).toArray)) (v := (I x6.Kind)) rfl (by kernel_rfl)) ?_
      refine arun_do rfl rfl rfl (ex_bin (vx := (I x6.Kind)) (vy := (I 2)) rfl rfl neqI_ok) ?_
      refine arun_do rfl rfl rfl (ex_assign (eV (v := (Bo (x6.Kind != 2))) rfl)) ?_
      refine arun_keepE [4, 7, 9, 40] 0 0 (st' := ⟨51, 0, [(4, (I x4.1)), (7, (SL 1 cS x1.1)), (9, (I (w64 ((x1.1.length : Int) - 1)))), (40, (Bo (x6.Kind != 2)))], [], ⟨0, []⟩⟩) (by kernel_rfl) (by kernel_rfl) ?_
      show AWp _ _ _ _
      rcases Bool.eq_false_or_eq_true (x6.Kind != 2) with hb7 | hb7
      · rw [condT hb7] at h
        refine awp_condT (boT hb7) ?_
        refine awp_seq ?_
        refine awp_region ?_
        refine arun_do rfl rfl rfl (ex_assign (eV (v := (I 0)) rfl)) ?_
        refine arun_do rfl rfl rfl (ex_assign (eV (v := (S [])) rfl)) ?_
        refine arun_do rfl rfl rfl (ex_assign (eV (v := (I 5)) rfl)) ?_
        refine arun_keepE [4, 5, 6] 0 0 (st' := ⟨51, 0, [(4, (I 0)), (5, (S [])), (6, (I 5))], [], ⟨0, []⟩⟩) (by kernel_rfl) (by kernel_rfl) ?_
        show AWp _ _ _ _
        refine awp_ret ?_
        cases h
        exact aresN rfl (L2.cons (rtmp rfl (eV rfl)) (L2.cons (rtmp rfl (eV rfl)) (L2.cons (rtmp rfl (eV rfl)) L2.nil))) rfl
      · rw [condF hb7] at h
        refine awp_condF (boF hb7) ?_
        refine awp_skip ?_
        show AWp _ _ _ _
        refine awp_seq ?_
        obtain ⟨x8, hx8, h⟩ := bindS h
        refine awp_kn [4, 5, 6] 0 0 (st' := ⟨51, 0, [(4, (I x4.1)), (5, (S x8)), (6, (I 0))], [], ⟨0, []⟩⟩) (awp_draw (T := [(I x4.1), (SL 1 cS x1.1), (I (w64 ((x1.1.length : Int) - 1))), (DP (cS x8)), (S x8), (I x4.1), (S x8), (I 0)]) (LH := [([], ⟨0, []⟩)]) (D := [⟨[(4, none)], [], [0], false⟩, ⟨[(7, none)], [], [0], false⟩, ⟨[(9, none)], [], [0], false⟩, ⟨[(47, some 1), (48, some 2)], [1, 2], [0], false⟩, ⟨[(49, some 3)], [1, 2, 3], [0], false⟩, ⟨[(46, some 0)], [0], [0], false⟩, ⟨[(50, some 4)], [0, 1, 2, 3, 4, 5], [0], false⟩, ⟨[], [0, 1, 2, 3, 4, 5, 6], [0], false⟩]) (S := []) (plan := [0, 1, 2, 3, 4, 5, 6, 7]) mo (by kernel_rfl) rfl rfl rfl (dcons (dstep1 (Tm := [(4, (I x4.1))]) (L := []) (H := ⟨0, []⟩) rfl rfl rfl rfl rfl (astep_do rfl (ex_move (eV (v := (I x4.1)) rfl)))) (dcons (dstep1 (Tm := [(7, (SL 1 cS x1.1))]) (L := []) (H := ⟨0, []⟩) rfl rfl rfl rfl rfl (astep_do rfl (ex_move (eV (v := (SL 1 cS x1.1)) rfl)))) (dcons (dstep1 (Tm := [(9, (I (w64 ((x1.1.length : Int) - 1))))]) (L := []) (H := ⟨0, []⟩) rfl rfl rfl rfl rfl (astep_do rfl (ex_move (eV (v := (I (w64 ((x1.1.length : Int) - 1)))) rfl)))) (dcons (dstep1 (Tm := [(47, (SL 1 cS x1.1)), (48, (I (w64 ((x1.1.length : Int) - 1))))]) (L := []) (H := ⟨0, []⟩) rfl rfl rfl rfl rfl (astep_do rfl (tx_idxD (c := cS) (xs := x1.1) (i := (w64 ((x1.1.length : Int) - 1))) ceS Tryd.underlying60 s_9 rfl rfl hx8))) (dcons (dstep1 (Tm := [(49, (DP (cS x8)))]) (L := []) (H := ⟨0, []⟩) rfl rfl rfl rfl rfl (astep_do rfl (tx_ldD1 (v := (S x8)) Tryd.underlying9 rfl rfl rfl))) (dcons (dstep1 (Tm := [(46, (I x4.1))]) (L := []) (H := ⟨0, []⟩) rfl rfl rfl rfl rfl (astep_do rfl (ex_assign (eV (v := (I x4.1)) rfl)))) (dcons (dstep1 (Tm := [(50, (S x8))]) (L := []) (H := ⟨0, []⟩) rfl rfl rfl rfl rfl (astep_do rfl (ex_assign (eV (v := (S x8)) rfl)))) (dcons (dstep1 (Tm := []) (L := []) (H := ⟨0, []⟩) rfl rfl rfl rfl rfl (astep_do rfl (ex_assign (eV (v := (I 0)) rfl)))) dnil)))))))) ⟨rfl, rfl⟩) (by kernel_rfl) (by kernel_rfl) ?_
        show AWp _ _ _ _
        refine awp_ret ?_
        cases h
        exact aresN rfl (L2.cons (rtmp rfl (eV rfl)) (L2.cons (rtmp rfl (eV rfl)) (L2.cons (rtmp rfl (eV rfl)) L2.nil))) rfl

end Go.Proofs
