/- Pure models of functions of the program, and that its code does what they say: slices Index[[]int,int], slices Contains[[]int,int], walk Within, edit Move. Written by a program. -/
import Derived.Test.YtlcclhkbmkmfkaaDoorREO1
import Derived.Test.YtlcclhkbmkmfkaaDoorREO4
import Derived.Test.YtlcclhkbmkmfkaaDoorREO5
import Derived.Test.YtlcclhkbmkmfkaaDoorREOB
set_option maxRecDepth 20000
set_option maxHeartbeats 4000000
namespace Go.Proofs
open Go Go.Fhl
set_option linter.unusedVariables false
set_option linter.unusedSimpArgs false
noncomputable def M_slices_Index_int_int_l1 (t0 : (List Int)) (t1 : Int) : Nat → Int → Option Int
  | 0, _ => none
  | n1 + 1, v1 =>
  cond (decide (v1 < (t0.length : Int))) (Option.bind (getI t0 v1) fun (x3 : Int) => cond (t1 == x3) (some v1) ((M_slices_Index_int_int_l1 t0 t1 n1) (w64 (v1 + 1)))) (some (-1))
noncomputable def M_slices_Index_int_int (t0 : (List Int)) (t1 : Int) : Option Int :=
  M_slices_Index_int_int_l1 t0 t1 fuel 0
theorem ok_slices_Index_int_int (t0 : (List Int)) (t1 : Int) (r : Int) (h : M_slices_Index_int_int t0 t1 = some r) : FFn Tryd.prog 56 [(SL 1 cI t0), (I t1)] (I r) := by
  refine FFn.of_body (n := 19) Tryd.func56 rfl Tryd.ntmps56 rfl rfl rfl rfl ?_
  show AWp _ _ _ ⟨19, 0, [(0, (SL 1 cI t0)), (1, (I t1))], [], ⟨0, []⟩⟩
  unfold M_slices_Index_int_int at h
  refine awp_seq ?_
  refine awp_region ?_
  refine arun_do rfl rfl rfl (ex_assign (eV (v := (I 0)) rfl)) ?_
  refine arun_keepE [0, 1] 0 0 (st' := ⟨19, 0, [(0, (SL 1 cI t0)), (1, (I t1))], [], ⟨0, []⟩⟩) (by kernel_rfl) (by kernel_rfl) ?_
  show AWp _ _ _ _
  refine awp_seq ?_
  refine awp_seq ?_
  refine awp_region ?_
  refine arun_do rfl rfl rfl (ex_move (eV (v := (SL 1 cI t0)) rfl)) ?_
  refine arun_do rfl rfl rfl (tx_lenD (xs := t0) ceI Tryd.underlying29 rfl) ?_
  refine arun_do rfl rfl rfl (ex_move (eV (v := (I 0)) rfl)) ?_
  refine arun_keepE [0, 1, 7, 8] 0 0 (st' := ⟨19, 0, [(0, (SL 1 cI t0)), (1, (I t1)), (7, (I (t0.length : Int))), (8, (I 0))], [], ⟨0, []⟩⟩) (by kernel_rfl) (by kernel_rfl) ?_
  show AWp _ _ _ _
  refine awp_block ?_
  refine awp_loop (fun n s => ∃ (v1 : Int), s = ⟨19, 0, [(0, (SL 1 cI t0)), (1, (I t1)), (7, (I (t0.length : Int))), (8, (I v1))], [], ⟨0, []⟩⟩ ∧ M_slices_Index_int_int_l1 t0 t1 n v1 = some r) fuel (Exists.intro 0 (And.intro rfl h)) ?_
  rintro n s ⟨v1, rfl, h⟩ -
  cases n with
  | zero => cases h
  | succ n1 =>
    unfold M_slices_Index_int_int_l1 at h
    refine awp_seq ?_
    refine awp_region ?_
    refine arun_do rfl rfl rfl (ex_bin (vx := (I v1)) (vy := (I (t0.length : Int))) rfl rfl lssI_ok) ?_
    refine arun_keepE [0, 1, 7, 8, 9] 0 0 (st' := ⟨19, 0, [(0, (SL 1 cI t0)), (1, (I t1)), (7, (I (t0.length : Int))), (8, (I v1)), (9, (Bo (decide (v1 < (t0.length : Int)))))], [], ⟨0, []⟩⟩) (by kernel_rfl) (by kernel_rfl) ?_
    show AWp _ _ _ _
    refine awp_seq ?_
    rcases Bool.eq_false_or_eq_true (decide (v1 < (t0.length : Int))) with hb2 | hb2
    · rw [condT hb2] at h
      refine awp_condT (boT hb2) ?_
      refine awp_skip ?_
      show AWp _ _ _ _
      refine awp_seq ?_
      refine awp_block ?_
      refine awp_seq ?_
      refine awp_region ?_
      refine arun_do rfl rfl rfl (ex_move (eV (v := (I v1)) rfl)) ?_
      refine arun_do rfl rfl rfl (ex_assign (eV (v := (I v1)) rfl)) ?_
      refine arun_keepE [0, 1, 5, 7, 8] 0 0 (st' := ⟨19, 0, [(0, (SL 1 cI t0)), (1, (I t1)), (5, (I v1)), (7, (I (t0.length : Int))), (8, (I v1))], [], ⟨0, []⟩⟩) (by kernel_rfl) (by kernel_rfl) ?_
      show AWp _ _ _ _
      refine awp_seq ?_
      refine awp_region ?_
      refine arun_do rfl rfl rfl (ex_move (eV (v := (I t1)) rfl)) ?_
      refine arun_do rfl rfl rfl (ex_move (eV (v := (SL 1 cI t0)) rfl)) ?_
      refine arun_do rfl rfl rfl (ex_move (eV (v := (I v1)) rfl)) ?_
      obtain ⟨x3, hx3, h⟩ := bindS h
      refine arun_do rfl rfl rfl (tx_idxD (c := cI) (xs := t0) (i := v1) ceI Tryd.underlying29 s_3 rfl rfl hx3) ?_
      refine arun_do rfl rfl rfl (tx_ldD1 (v := (I x3)) Tryd.underlying3 rfl rfl rfl) ?_
      refine arun_do rfl rfl rfl (ex_bin (vx := (I t1)) (vy := (I x3)) rfl rfl eqlI_ok) ?_
      refine arun_keepE [0, 1, 5, 7, 8, 16] 0 0 (st' := ⟨19, 0, [(0, (SL 1 cI t0)), (1, (I t1)), (5, (I v1)), (7, (I (t0.length : Int))), (8, (I v1)), (16, (Bo (t1 == x3)))], [], ⟨0, []⟩⟩) (by kernel_rfl) (by kernel_rfl) ?_
      show AWp _ _ _ _
      rcases Bool.eq_false_or_eq_true (t1 == x3) with hb4 | hb4
      · rw [condT hb4] at h
        refine awp_condT (boT hb4) ?_
        refine awp_seq ?_
        refine awp_region ?_
        refine arun_do rfl rfl rfl (ex_move (eV (v := (I v1)) rfl)) ?_
        refine arun_do rfl rfl rfl (ex_assign (eV (v := (I v1)) rfl)) ?_
        refine arun_keepE [4] 0 0 (st' := ⟨19, 0, [(4, (I v1))], [], ⟨0, []⟩⟩) (by kernel_rfl) (by kernel_rfl) ?_
        show AWp _ _ _ _
        refine awp_ret ?_
        cases h
        exact ares1 (rtmp rfl (eV rfl))
      · rw [condF hb4] at h
        refine awp_condF (boF hb4) ?_
        refine awp_skip ?_
        show AWp _ _ _ _
        refine awp_region ?_
        refine arun_do rfl rfl rfl (ex_bin (vx := (I v1)) (vy := (I 1)) rfl rfl addI_ok) ?_
        refine arun_do rfl rfl rfl (ex_move (eV (v := (I (w64 (v1 + 1)))) rfl)) ?_
        refine arun_keepE [0, 1, 7, 8] 0 0 (st' := ⟨19, 0, [(0, (SL 1 cI t0)), (1, (I t1)), (7, (I (t0.length : Int))), (8, (I (w64 (v1 + 1))))], [], ⟨0, []⟩⟩) (by kernel_rfl) (by kernel_rfl) ?_
        exact Exists.intro n1 (And.intro (Nat.lt_succ_self _) (Exists.intro (w64 (v1 + 1)) (And.intro rfl h)))
    · rw [condF hb2] at h
      refine awp_condF (boF hb2) ?_
      refine awp_exit ?_
      show AWp _ _ _ _
      refine awp_seq ?_
      refine awp_region ?_
      refine arun_do rfl rfl rfl (ex_assign (eV (v := (I (-1))) rfl)) ?_
      refine arun_keepE [4] 0 0 (st' := ⟨19, 0, [(4, (I (-1)))], [], ⟨0, []⟩⟩) (by kernel_rfl) (by kernel_rfl) ?_
      show AWp _ _ _ _
      refine awp_ret ?_
      cases h
      exact ares1 (rtmp rfl (eV rfl))

noncomputable def M_slices_Contains_int_int (t0 : (List Int)) (t1 : Int) : Option Bool :=
  Option.bind (M_slices_Index_int_int t0 t1) fun (x1 : Int) => some (decide (x1 ≥ 0))
theorem ok_slices_Contains_int_int (t0 : (List Int)) (t1 : Int) (r : Bool) (h : M_slices_Contains_int_int t0 t1 = some r) : FFn Tryd.prog 40 [(SL 1 cI t0), (I t1)] (Bo r) := by
  refine FFn.of_body (n := 9) Tryd.func40 rfl Tryd.ntmps40 rfl rfl rfl rfl ?_
  show AWp _ _ _ ⟨9, 0, [(0, (SL 1 cI t0)), (1, (I t1))], [], ⟨0, []⟩⟩
  unfold M_slices_Contains_int_int at h
  refine awp_seq ?_
  refine awp_region ?_
  refine arun_do rfl rfl rfl (ex_assign (eV (v := (Bo false)) rfl)) ?_
  refine arun_keepE [0, 1] 0 0 (st' := ⟨9, 0, [(0, (SL 1 cI t0)), (1, (I t1))], [], ⟨0, []⟩⟩) (by kernel_rfl) (by kernel_rfl) ?_
  show AWp _ _ _ _
  refine awp_seq ?_
  refine awp_region ?_
  refine arun_do rfl rfl rfl (ex_move (eV (v := (SL 1 cI t0)) rfl)) ?_
  refine arun_do rfl rfl rfl (ex_move (eV (v := (I t1)) rfl)) ?_
  obtain ⟨x1, hx1, h⟩ := bindS h
  refine arun_do rfl rfl rfl (ex_call0 (vs := [(SL 1 cI t0), (I t1)]) (v := (I x1)) rfl en_56 (cargs (evs rfl (evs rfl evs_nil))) rfl (ok_slices_Index_int_int t0 t1 x1 hx1) rfl) ?_
  refine arun_do rfl rfl rfl (ex_bin (vx := (I x1)) (vy := (I 0)) rfl rfl geqI_ok) ?_
  refine arun_do rfl rfl rfl (ex_assign (eV (v := (Bo (decide (x1 ≥ 0)))) rfl)) ?_
  refine arun_keepE [4] 0 0 (st' := ⟨9, 0, [(4, (Bo (decide (x1 ≥ 0))))], [], ⟨0, []⟩⟩) (by kernel_rfl) (by kernel_rfl) ?_
  show AWp _ _ _ _
  refine awp_ret ?_
  cases h
  exact ares1 (rtmp rfl (eV rfl))

noncomputable def M_walk_Within (t0 : (List G_api_Node)) (t1 : Int) (t2 : Int) : Option Bool :=
  Option.bind (M_walk_files_at (G_walk_files.mk t0) t1) fun (x1 : G_api_Node) => Option.bind (gd ((x1.Kind != 0) == true) (M_walk_files_at (G_walk_files.mk t0) t2)) fun (x2 : G_api_Node) => Option.bind (gd (((x1.Kind != 0) && (x2.Kind != 0)) == true) (M_walk_files_up (G_walk_files.mk t0) t1)) fun (x3 : (List Int)) => Option.bind (gd (((x1.Kind != 0) && (x2.Kind != 0)) == true) (M_slices_Contains_int_int x3 t2)) fun (x4 : Bool) => some (((x1.Kind != 0) && (x2.Kind != 0)) && x4)
theorem ok_walk_Within (t0 : (List G_api_Node)) (t1 : Int) (t2 : Int) (r : Bool) (h : M_walk_Within t0 t1 t2 = some r) : FFn Tryd.prog 25 [(SL 5 c_api_Node t0), (I t1), (I t2)] (Bo r) := by
  refine FFn.of_body (n := 29) Tryd.func25 rfl Tryd.ntmps25 rfl rfl rfl rfl ?_
  show AWp _ _ _ ⟨29, 0, [(0, (SL 5 c_api_Node t0)), (1, (I t1)), (2, (I t2))], [], ⟨0, []⟩⟩
  unfold M_walk_Within at h
  refine awp_seq ?_
  refine awp_region ?_
  refine arun_do rfl rfl rfl (ex_assign (eV (v := (Bo false)) rfl)) ?_
  refine arun_keepE [0, 1, 2] 0 0 (st' := ⟨29, 0, [(0, (SL 5 c_api_Node t0)), (1, (I t1)), (2, (I t2))], [], ⟨0, []⟩⟩) (by kernel_rfl) (by kernel_rfl) ?_
  show AWp _ _ _ _
  refine awp_seq ?_
  refine awp_region ?_
  refine arun_do rfl rfl rfl (ex_move (eV (v := (SL 5 c_api_Node t0)) rfl)) ?_
  refine arun_do rfl rfl rfl (ex_build (qs := [(0, (SL 5 c_api_Node t0))]) (v := (Value.agg (c_walk_files (G_walk_files.mk t0)).toArray)) (evp rfl evp_nil) (by kernel_rfl)) ?_
  refine arun_do rfl rfl rfl (ex_allocW (k := 0) (zs := (c_walk_files (G_walk_files.mk []))) (L' := [(c_walk_files (G_walk_files.mk []))]) z_71 rfl (by repeat (first | exact trivial | refine ⟨.inl rfl, ?_⟩ | refine ⟨.inr ⟨rfl, _, rfl⟩, ?_⟩)) rfl rfl) ?_
  refine arun_do0 rfl rfl (ex_storeL (vy := (Value.agg (c_walk_files (G_walk_files.mk t0)).toArray)) (cs := (c_walk_files (G_walk_files.mk []))) (vs := (c_walk_files (G_walk_files.mk t0))) (L' := [(c_walk_files (G_walk_files.mk t0))]) rfl (eV (v := (Value.agg (c_walk_files (G_walk_files.mk t0)).toArray)) rfl) rfl s_71 rfl (Nat.le_of_ble_eq_true rfl) (by kernel_rfl)) ?_
  refine arun_keepE [1, 2, 7] 1 0 (st' := ⟨29, 0, [(1, (I t1)), (2, (I t2)), (7, (LP 0 0))], [(c_walk_files (G_walk_files.mk t0))], ⟨0, []⟩⟩) (by kernel_rfl) (by kernel_rfl) ?_
  show AWp _ _ _ _
  refine awp_seq ?_
  refine awp_region ?_
  refine arun_do rfl rfl rfl (tx_ldLA (vs := (c_walk_files (G_walk_files.mk t0))) Tryd.underlying71 rfl s_71 (by decide) rfl rfl rfl rfl) ?_
  refine arun_do rfl rfl rfl (ex_move (eV (v := (I t1)) rfl)) ?_
  obtain ⟨x1, hx1, h⟩ := bindS h
  refine arun_do rfl rfl rfl (ex_call0 (vs := [(Value.agg (c_walk_files (G_walk_files.mk t0)).toArray), (I t1)]) (v := (Value.agg (c_api_Node x1).toArray)) rfl en_39 (cargs (evs rfl (evs rfl evs_nil))) rfl (ok_walk_files_at (G_walk_files.mk t0) t1 x1 hx1) rfl) ?_
  refine arun_do rfl rfl rfl (ex_field (vx := (Value.agg (c_api_Node x1).toArray)) (v := (I x1.Kind)) rfl (by kernel_rfl)) ?_
  refine arun_do rfl rfl rfl (ex_bin (vx := (I x1.Kind)) (vy := (I 0)) rfl rfl neqI_ok) ?_
  refine arun_do rfl rfl rfl (ex_move (eV (v := (Bo (x1.Kind != 0))) rfl)) ?_
  refine arun_guard (v := (Value.agg (c_walk_files (G_walk_files.mk t0)).toArray)) ((x1.Kind != 0) == true) rfl rfl rfl (fun hc => tx_ldLA (vs := (c_walk_files (G_walk_files.mk t0))) Tryd.underlying71 rfl s_71 (by decide) rfl rfl rfl rfl) ?_
  refine arun_guard (v := (I t2)) ((x1.Kind != 0) == true) rfl rfl rfl (fun hc => ex_move (eV (v := (I t2)) rfl)) ?_
  obtain ⟨x2, hx2, h⟩ := bindS h
  refine arun_guard (v := (Value.agg (c_api_Node x2).toArray)) ((x1.Kind != 0) == true) rfl rfl rfl (fun hc => ex_call0 (vs := [(Value.agg (c_walk_files (G_walk_files.mk t0)).toArray), (I t2)]) (v := (Value.agg (c_api_Node x2).toArray)) rfl en_39 (cargs (evs (cond_of hc) (evs (cond_of hc) evs_nil))) rfl (ok_walk_files_at (G_walk_files.mk t0) t2 x2 (gd_of hc hx2)) rfl) ?_
  refine arun_guard (v := (I x2.Kind)) ((x1.Kind != 0) == true) rfl rfl rfl (fun hc => ex_field (vx := (Value.agg (c_api_Node x2).toArray)) (v := (I x2.Kind)) (cond_of hc) (by kernel_rfl)) ?_
  refine arun_guard (v := (Bo (x2.Kind != 0))) ((x1.Kind != 0) == true) rfl rfl rfl (fun hc => ex_bin (vx := (I x2.Kind)) (vy := (I 0)) (cond_of hc) rfl neqI_ok) ?_
  refine arun_do rfl rfl rfl (ex_pick rfl pkAnd) ?_
  refine arun_do rfl rfl rfl (ex_move (eV (v := (Bo ((x1.Kind != 0) && (x2.Kind != 0)))) rfl)) ?_
  refine arun_guard (v := (Value.agg (c_walk_files (G_walk_files.mk t0)).toArray)) (((x1.Kind != 0) && (x2.Kind != 0)) == true) rfl rfl rfl (fun hc => tx_ldLA (vs := (c_walk_files (G_walk_files.mk t0))) Tryd.underlying71 rfl s_71 (by decide) rfl rfl rfl rfl) ?_
  refine arun_guard (v := (I t1)) (((x1.Kind != 0) && (x2.Kind != 0)) == true) rfl rfl rfl (fun hc => ex_move (eV (v := (I t1)) rfl)) ?_
  obtain ⟨x3, hx3, h⟩ := bindS h
  refine arun_guard (v := (SL 1 cI x3)) (((x1.Kind != 0) && (x2.Kind != 0)) == true) rfl rfl rfl (fun hc => ex_call0 (vs := [(Value.agg (c_walk_files (G_walk_files.mk t0)).toArray), (I t1)]) (v := (SL 1 cI x3)) rfl en_41 (cargs (evs (cond_of hc) (evs (cond_of hc) evs_nil))) rfl (ok_walk_files_up (G_walk_files.mk t0) t1 x3 (gd_of hc hx3)) rfl) ?_
  refine arun_guard (v := (I t2)) (((x1.Kind != 0) && (x2.Kind != 0)) == true) rfl rfl rfl (fun hc => ex_move (eV (v := (I t2)) rfl)) ?_
  obtain ⟨x4, hx4, h⟩ := bindS h
  refine arun_guard (v := (Bo x4)) (((x1.Kind != 0) && (x2.Kind != 0)) == true) rfl rfl rfl (fun hc => ex_call0 (vs := [(SL 1 cI x3), (I t2)]) (v := (Bo x4)) rfl en_40 (cargs (evs (cond_of hc) (evs (cond_of hc) evs_nil))) rfl (ok_slices_Contains_int_int x3 t2 x4 (gd_of hc hx4)) rfl) ?_
  refine arun_do rfl rfl rfl (ex_pick rfl pkAnd) ?_
  refine arun_do rfl rfl rfl (ex_assign (eV (v := (Bo (((x1.Kind != 0) && (x2.Kind != 0)) && x4))) rfl)) ?_
  refine arun_keepE [6] 0 0 (st' := ⟨29, 0, [(6, (Bo (((x1.Kind != 0) && (x2.Kind != 0)) && x4)))], [], ⟨0, []⟩⟩) (by kernel_rfl) (by kernel_rfl) ?_
  show AWp _ _ _ _
  refine awp_ret ?_
  cases h
  exact ares1 (rtmp rfl (eV rfl))

noncomputable def M_edit_Move_k2 (t0 : (List G_api_Node)) (y7 : Int) : Option ((List G_api_Node) × Int) :=
  Option.bind (M_slices_Clone_api_Set_api_Node t0) fun (x18 : (List G_api_Node)) => some (x18, y7)
noncomputable def M_edit_Move_k1 (t0 : (List G_api_Node)) (t2 : Str) (x1 : (Int × Int)) (y2 : Int) : Option ((List G_api_Node) × Int) :=
  cond (y2 != 0) (Option.bind (M_slices_Clone_api_Set_api_Node t0) fun (x5 : (List G_api_Node)) => some (x5, y2)) (Option.bind (M_edit_place t0 t2) fun (x6 : (G_edit_spot × Int)) => cond (x6.2 != 0) (M_edit_Move_k2 t0 x6.2) (Option.bind (getI t0 x1.1) fun (x9 : G_api_Node) => Option.bind (gd ((x9.Up == x6.1.up) == true) (getI t0 x1.1)) fun (x10 : G_api_Node) => cond ((x9.Up == x6.1.up) && (x10.Name == x6.1.name)) (M_edit_Move_k2 t0 x6.2) (Option.bind (M_edit_spot_taken x6.1) fun (x12 : Bool) => cond x12 (M_edit_Move_k2 t0 3) (Option.bind (M_walk_Within t0 x6.1.up x1.1) fun (x14 : Bool) => cond x14 (M_edit_Move_k2 t0 7) (Option.bind (getI t0 x1.1) fun (x16 : G_api_Node) => Option.bind (M_edit_spot_put x6.1 x1.1 x16) fun (x17 : (List G_api_Node)) => some (x17, 0))))))
noncomputable def M_edit_Move (t0 : (List G_api_Node)) (t1 : Str) (t2 : Str) : Option ((List G_api_Node) × Int) :=
  Option.bind (M_walk_Find t0 t1) fun (x1 : (Int × Int)) => cond ((x1.2 == 0) && (x1.1 == 0)) (M_edit_Move_k1 t0 t2 x1 4) (M_edit_Move_k1 t0 t2 x1 x1.2)
theorem ok_edit_Move (t0 : (List G_api_Node)) (t1 : Str) (t2 : Str) (r : ((List G_api_Node) × Int)) (h : M_edit_Move t0 t1 t2 = some r) : FFn Tryd.prog 10 [(SL 5 c_api_Node t0), (S t1), (S t2)] (Value.tuple #[(SL 5 c_api_Node r.1), (I r.2)]) := by
  refine FFn.of_body (n := 75) Tryd.func10 rfl Tryd.ntmps10 rfl rfl rfl rfl ?_
  show AWp _ _ _ ⟨75, 0, [(0, (SL 5 c_api_Node t0)), (1, (S t1)), (2, (S t2))], [], ⟨0, []⟩⟩
  unfold M_edit_Move at h
  refine awp_seq ?_
  refine awp_region ?_
  refine arun_do rfl rfl rfl (ex_assign (eV (v := (Value.slice none 0 0)) rfl)) ?_
  refine arun_do rfl rfl rfl (ex_assign (eV (v := (I 0)) rfl)) ?_
  refine arun_keepE [0, 1, 2] 0 0 (st' := ⟨75, 0, [(0, (SL 5 c_api_Node t0)), (1, (S t1)), (2, (S t2))], [], ⟨0, []⟩⟩) (by kernel_rfl) (by kernel_rfl) ?_
  show AWp _ _ _ _
  refine awp_seq ?_
  refine awp_region ?_
  refine arun_do rfl rfl rfl (ex_move (eV (v := (SL 5 c_api_Node t0)) rfl)) ?_
  refine arun_do rfl rfl rfl (ex_move (eV (v := (S t1)) rfl)) ?_
  obtain ⟨x1, hx1, h⟩ := bindS h
  refine arun_do rfl rfl rfl (ex_call0 (vs := [(SL 5 c_api_Node t0), (S t1)]) (v := (Value.tuple #[(I x1.1), (I x1.2)])) rfl en_23 (cargs (evs rfl (evs rfl evs_nil))) rfl (ok_walk_Find t0 t1 x1 hx1) rfl) ?_
  refine arun_do rfl rfl rfl (ex_move (eV (v := (Value.tuple #[(I x1.1), (I x1.2)])) rfl)) ?_
  refine arun_do rfl rfl rfl (ex_extract (vx := (Value.tuple #[(I x1.1), (I x1.2)])) (v := (I x1.1)) rfl rfl) ?_
  refine arun_do rfl rfl rfl (ex_extract (vx := (Value.tuple #[(I x1.1), (I x1.2)])) (v := (I x1.2)) rfl rfl) ?_
  refine arun_do rfl rfl rfl (ex_assign (eV (v := (I x1.1)) rfl)) ?_
  refine arun_do rfl rfl rfl (ex_assign (eV (v := (I x1.2)) rfl)) ?_
  refine arun_keepE [0, 2, 8, 9] 0 0 (st' := ⟨75, 0, [(0, (SL 5 c_api_Node t0)), (2, (S t2)), (8, (I x1.1)), (9, (I x1.2))], [], ⟨0, []⟩⟩) (by kernel_rfl) (by kernel_rfl) ?_
  show AWp _ _ _ _
  refine awp_seqJ (fun s => ∃ (y2 : Int), s = ⟨75, 0, [(0, (SL 5 c_api_Node t0)), (2, (S t2)), (8, (I x1.1)), (9, (I y2))], [], ⟨0, []⟩⟩ ∧ M_edit_Move_k1 t0 t2 x1 y2 = some r) ?_ ?_
  · refine awp_seq ?_
    refine awp_region ?_
    refine arun_do rfl rfl rfl (ex_move (eV (v := (I x1.2)) rfl)) ?_
    refine arun_do rfl rfl rfl (ex_bin (vx := (I x1.2)) (vy := (I 0)) rfl rfl eqlI_ok) ?_
    refine arun_do rfl rfl rfl (ex_move (eV (v := (Bo (x1.2 == 0))) rfl)) ?_
    refine arun_guard (v := (I x1.1)) ((x1.2 == 0) == true) rfl rfl rfl (fun hc => ex_move (eV (v := (I x1.1)) rfl)) ?_
    refine arun_guard (v := (Bo (x1.1 == 0))) ((x1.2 == 0) == true) rfl rfl rfl (fun hc => ex_bin (vx := (I x1.1)) (vy := (I 0)) (cond_of hc) rfl eqlI_ok) ?_
    refine arun_do rfl rfl rfl (ex_pick rfl pkAnd) ?_
    refine arun_keepE [0, 2, 8, 9, 22] 0 0 (st' := ⟨75, 0, [(0, (SL 5 c_api_Node t0)), (2, (S t2)), (8, (I x1.1)), (9, (I x1.2)), (22, (Bo ((x1.2 == 0) && (x1.1 == 0))))], [], ⟨0, []⟩⟩) (by kernel_rfl) (by kernel_rfl) ?_
    show AWp _ _ _ _
    rcases Bool.eq_false_or_eq_true ((x1.2 == 0) && (x1.1 == 0)) with hb3 | hb3
    · rw [condT hb3] at h
      refine awp_condT (boT hb3) ?_
      refine awp_region ?_
      refine arun_do rfl rfl rfl (ex_assign (eV (v := (I 4)) rfl)) ?_
      refine arun_keepE [0, 2, 8, 9] 0 0 (st' := ⟨75, 0, [(0, (SL 5 c_api_Node t0)), (2, (S t2)), (8, (I x1.1)), (9, (I 4))], [], ⟨0, []⟩⟩) (by kernel_rfl) (by kernel_rfl) ?_
      exact (Exists.intro 4 (And.intro rfl h))
    · rw [condF hb3] at h
      refine awp_condF (boF hb3) ?_
      refine awp_keepE [0, 2, 8, 9] 0 0 (st' := ⟨75, 0, [(0, (SL 5 c_api_Node t0)), (2, (S t2)), (8, (I x1.1)), (9, (I x1.2))], [], ⟨0, []⟩⟩) (by kernel_rfl) (by kernel_rfl) ?_
      refine awp_skip ?_
      exact (Exists.intro x1.2 (And.intro rfl h))
  · rintro s ⟨y2, rfl, h⟩
    unfold M_edit_Move_k1 at h
    refine awp_seq ?_
    refine awp_seq ?_
    refine awp_region ?_
    refine arun_do rfl rfl rfl (ex_move (eV (v := (I y2)) rfl)) ?_
    refine arun_do rfl rfl rfl (ex_bin (vx := (I y2)) (vy := (I 0)) rfl rfl neqI_ok) ?_
    refine arun_keepE [0, 2, 8, 9, 24] 0 0 (st' := ⟨75, 0, [(0, (SL 5 c_api_Node t0)), (2, (S t2)), (8, (I x1.1)), (9, (I y2)), (24, (Bo (y2 != 0)))], [], ⟨0, []⟩⟩) (by kernel_rfl) (by kernel_rfl) ?_
    show AWp _ _ _ _
    rcases Bool.eq_false_or_eq_true (y2 != 0) with hb4 | hb4
    · rw [condT hb4] at h
      refine awp_condT (boT hb4) ?_
      refine awp_seq ?_
      refine awp_region ?_
      refine arun_do rfl rfl rfl (ex_move (eV (v := (SL 5 c_api_Node t0)) rfl)) ?_
      obtain ⟨x5, hx5, h⟩ := bindS h
      refine arun_do rfl rfl rfl (ex_call0 (vs := [(SL 5 c_api_Node t0)]) (v := (SL 5 c_api_Node x5)) rfl en_22 (cargs (evs rfl evs_nil)) rfl (ok_slices_Clone_api_Set_api_Node t0 x5 hx5) rfl) ?_
      refine arun_do rfl rfl rfl (ex_move (eV (v := (I y2)) rfl)) ?_
      refine arun_do rfl rfl rfl (ex_assign (eV (v := (SL 5 c_api_Node x5)) rfl)) ?_
      refine arun_do rfl rfl rfl (ex_assign (eV (v := (I y2)) rfl)) ?_
      refine arun_keepE [6, 7] 0 0 (st' := ⟨75, 0, [(6, (SL 5 c_api_Node x5)), (7, (I y2))], [], ⟨0, []⟩⟩) (by kernel_rfl) (by kernel_rfl) ?_
      show AWp _ _ _ _
      refine awp_ret ?_
      cases h
      exact aresN rfl (L2.cons (rtmp rfl (eV rfl)) (L2.cons (rtmp rfl (eV rfl)) L2.nil)) rfl
    · rw [condF hb4] at h
      refine awp_condF (boF hb4) ?_
      refine awp_skip ?_
      show AWp _ _ _ _
      refine awp_seq ?_
      refine awp_region ?_
      refine arun_do rfl rfl rfl (ex_move (eV (v := (SL 5 c_api_Node t0)) rfl)) ?_
      refine arun_do rfl rfl rfl (ex_move (eV (v := (S t2)) rfl)) ?_
      obtain ⟨x6, hx6, h⟩ := bindS h
      refine arun_do rfl rfl rfl (ex_call0 (vs := [(SL 5 c_api_Node t0), (S t2)]) (v := (Value.tuple #[(Value.agg (c_edit_spot x6.1).toArray), (I x6.2)])) rfl en_18 (cargs (evs rfl (evs rfl evs_nil))) rfl (ok_edit_place t0 t2 x6 hx6) rfl) ?_
      refine arun_do rfl rfl rfl (ex_move (eV (v := (Value.tuple #[(Value.agg (c_edit_spot x6.1).toArray), (I x6.2)])) rfl)) ?_
      refine arun_do rfl rfl rfl (ex_extract (vx := (Value.tuple #[(Value.agg (c_edit_spot x6.1).toArray), (I x6.2)])) (v := (Value.agg (c_edit_spot x6.1).toArray)) rfl rfl) ?_
      refine arun_do rfl rfl rfl (ex_extract (vx := (Value.tuple #[(Value.agg (c_edit_spot x6.1).toArray), (I x6.2)])) (v := (I x6.2)) rfl rfl) ?_
      refine arun_do rfl rfl rfl (ex_allocW (k := 0) (zs := (c_edit_spot (G_edit_spot.mk [] 0 []))) (L' := [(c_edit_spot (G_edit_spot.mk [] 0 []))]) z_51 rfl (by repeat (first | exact trivial | refine ⟨.inl rfl, ?_⟩ | refine ⟨.inr ⟨rfl, _, rfl⟩, ?_⟩)) rfl rfl) ?_
      refine arun_do0 rfl rfl (ex_storeL (vy := (Value.agg (c_edit_spot x6.1).toArray)) (cs := (c_edit_spot (G_edit_spot.mk [] 0 []))) (vs := (c_edit_spot x6.1)) (L' := [(c_edit_spot x6.1)]) rfl (eV (v := (Value.agg (c_edit_spot x6.1).toArray)) rfl) rfl s_51 rfl (Nat.le_of_ble_eq_true rfl) (by kernel_rfl)) ?_
      refine arun_do rfl rfl rfl (ex_assign (eV (v := (I x6.2)) rfl)) ?_
      refine arun_keepE [0, 8, 9, 10] 1 0 (st' := ⟨75, 0, [(0, (SL 5 c_api_Node t0)), (8, (I x1.1)), (9, (I x6.2)), (10, (LP 0 0))], [(c_edit_spot x6.1)], ⟨0, []⟩⟩) (by kernel_rfl) (by kernel_rfl) ?_
      show AWp _ _ _ _
      refine awp_seqJ (fun s => ∃ (y7 : Int), s = ⟨75, 0, [(0, (SL 5 c_api_Node t0)), (9, (I y7))], [], ⟨0, []⟩⟩ ∧ M_edit_Move_k2 t0 y7 = some r) ?_ ?_
      · refine awp_block ?_
        refine awp_seq ?_
        refine awp_region ?_
        refine arun_do rfl rfl rfl (ex_move (eV (v := (I x6.2)) rfl)) ?_
        refine arun_do rfl rfl rfl (ex_bin (vx := (I x6.2)) (vy := (I 0)) rfl rfl neqI_ok) ?_
        refine arun_do rfl rfl rfl (ex_assign (eV (v := (Bo (x6.2 != 0))) rfl)) ?_
        refine arun_keepE [0, 8, 9, 10, 41] 1 0 (st' := ⟨75, 0, [(0, (SL 5 c_api_Node t0)), (8, (I x1.1)), (9, (I x6.2)), (10, (LP 0 0)), (41, (Bo (x6.2 != 0)))], [(c_edit_spot x6.1)], ⟨0, []⟩⟩) (by kernel_rfl) (by kernel_rfl) ?_
        show AWp _ _ _ _
        rcases Bool.eq_false_or_eq_true (x6.2 != 0) with hb8 | hb8
        · rw [condT hb8] at h
          refine awp_condT (boT hb8) ?_
          refine awp_keepE [0, 9] 0 0 (st' := ⟨75, 0, [(0, (SL 5 c_api_Node t0)), (9, (I x6.2))], [], ⟨0, []⟩⟩) (by kernel_rfl) (by kernel_rfl) ?_
          refine awp_skip ?_
          exact (Exists.intro x6.2 (And.intro rfl h))
        · rw [condF hb8] at h
          refine awp_condF (boF hb8) ?_
          refine awp_seq ?_
          obtain ⟨x9, hx9, h⟩ := bindS h
          obtain ⟨x10, hx10, h⟩ := bindS h
          refine awp_kn [0, 8, 9, 10, 44] 1 0 (st' := ⟨75, 0, [(0, (SL 5 c_api_Node t0)), (8, (I x1.1)), (9, (I x6.2)), (10, (LP 0 0)), (44, (Bo ((x9.Up == x6.1.up) && (x10.Name == x6.1.name))))], [(c_edit_spot x6.1)], ⟨0, []⟩⟩) (awp_draw (T := [(SL 5 c_api_Node t0), (I x1.1), (DP (c_api_Node x9)), (DP (List.drop 1 (c_api_Node x9))), (I x9.Up), (LP 0 1), (I x6.1.up), (Bo (x9.Up == x6.1.up)), (Bo (x9.Up == x6.1.up)), (cond ((x9.Up == x6.1.up) == true) (SL 5 c_api_Node t0) skipV), (cond ((x9.Up == x6.1.up) == true) (I x1.1) skipV), (cond ((x9.Up == x6.1.up) == true) (DP (c_api_Node x10)) skipV), (cond ((x9.Up == x6.1.up) == true) (DP (List.drop 2 (c_api_Node x10))) skipV), (cond ((x9.Up == x6.1.up) == true) (S x10.Name) skipV), (cond ((x9.Up == x6.1.up) == true) (LP 0 2) skipV), (cond ((x9.Up == x6.1.up) == true) (S x6.1.name) skipV), (cond ((x9.Up == x6.1.up) == true) (Bo (x10.Name == x6.1.name)) skipV), (Bo ((x9.Up == x6.1.up) && (x10.Name == x6.1.name))), (Bo ((x9.Up == x6.1.up) && (x10.Name == x6.1.name)))]) (LH := [([(c_edit_spot x6.1)], ⟨0, []⟩)]) (D := [⟨[(0, none)], [], [0], false⟩, ⟨[(8, none)], [], [0], false⟩, ⟨[(45, some 0), (46, some 1)], [0, 1], [0], false⟩, ⟨[(47, some 2)], [0, 1, 2], [0], false⟩, ⟨[(48, some 3)], [0, 1, 2, 3], [0], false⟩, ⟨[(10, none)], [], [0], false⟩, ⟨[(50, some 5)], [5], [0], false⟩, ⟨[(49, some 4), (51, some 6)], [0, 1, 2, 3, 4, 5, 6], [0], false⟩, ⟨[(52, some 7)], [0, 1, 2, 3, 4, 5, 6, 7], [0], false⟩, ⟨[(0, none), (53, some 8)], [0, 1, 2, 3, 4, 5, 6, 7, 8], [0], false⟩, ⟨[(8, none), (53, some 8)], [0, 1, 2, 3, 4, 5, 6, 7, 8], [0], false⟩, ⟨[(54, some 9), (55, some 10), (53, some 8)], [0, 1, 2, 3, 4, 5, 6, 7, 8, 9, 10], [0], false⟩, ⟨[(56, some 11), (53, some 8)], [0, 1, 2, 3, 4, 5, 6, 7, 8, 9, 10, 11], [0], false⟩, ⟨[(57, some 12), (53, some 8)], [0, 1, 2, 3, 4, 5, 6, 7, 8, 9, 10, 11, 12], [0], false⟩, ⟨[(10, none), (53, some 8)], [0, 1, 2, 3, 4, 5, 6, 7, 8], [0], false⟩, ⟨[(59, some 14), (53, some 8)], [0, 1, 2, 3, 4, 5, 6, 7, 8, 14], [0], false⟩, ⟨[(58, some 13), (60, some 15), (53, some 8)], [0, 1, 2, 3, 4, 5, 6, 7, 8, 9, 10, 11, 12, 13, 14, 15], [0], false⟩, ⟨[(53, some 8), (61, some 16)], [0, 1, 2, 3, 4, 5, 6, 7, 8, 9, 10, 11, 12, 13, 14, 15, 16], [0], false⟩, ⟨[(62, some 17)], [0, 1, 2, 3, 4, 5, 6, 7, 8, 9, 10, 11, 12, 13, 14, 15, 16, 17], [0], false⟩]) (S := []) (plan := [0, 1, 2, 3, 4, 5, 6, 7, 8, 9, 10, 11, 12, 13, 14, 15, 16, 17, 18]) mo (by kernel_rfl) rfl rfl rfl (dcons (dstep1 (Tm := [(0, (SL 5 c_api_Node t0))]) (L := [(c_edit_spot x6.1)]) (H := ⟨0, []⟩) rfl rfl rfl rfl rfl (astep_do rfl (ex_move (eV (v := (SL 5 c_api_Node t0)) rfl)))) (dcons (dstep1 (Tm := [(8, (I x1.1))]) (L := [(c_edit_spot x6.1)]) (H := ⟨0, []⟩) rfl rfl rfl rfl rfl (astep_do rfl (ex_move (eV (v := (I x1.1)) rfl)))) (dcons (dstep1 (Tm := [(45, (SL 5 c_api_Node t0)), (46, (I x1.1))]) (L := [(c_edit_spot x6.1)]) (H := ⟨0, []⟩) rfl rfl rfl rfl rfl (astep_do rfl (tx_idxD (c := c_api_Node) (xs := t0) (i := x1.1) ce_api_Node Tryd.underlying25 s_39 rfl rfl hx9))) (dcons (dstep1 (Tm := [(47, (DP (c_api_Node x9)))]) (L := [(c_edit_spot x6.1)]) (H := ⟨0, []⟩) rfl rfl rfl rfl rfl (astep_do rfl (ex_fieldAddrD (vs := (List.drop 1 (c_api_Node x9))) Tryd.underlying39 rfl s_3 (by decide) rfl rfl))) (dcons (dstep1 (Tm := [(48, (DP (List.drop 1 (c_api_Node x9))))]) (L := [(c_edit_spot x6.1)]) (H := ⟨0, []⟩) rfl rfl rfl rfl rfl (astep_do rfl (tx_ldD1 (v := (I x9.Up)) Tryd.underlying3 rfl rfl rfl))) (dcons (dstep1 (Tm := [(10, (LP 0 0))]) (L := [(c_edit_spot x6.1)]) (H := ⟨0, []⟩) rfl rfl rfl rfl rfl (astep_do rfl (ex_fieldAddr (v := (LP 0 1)) Tryd.underlying51 rfl s_3 (by decide) rfl rfl))) (dcons (dstep1 (Tm := [(50, (LP 0 1))]) (L := [(c_edit_spot x6.1)]) (H := ⟨0, []⟩) rfl rfl rfl rfl rfl (astep_do rfl (tx_ldL1 (v := (I x6.1.up)) Tryd.underlying3 rfl rfl rfl rfl))) (dcons (dstep1 (Tm := [(49, (I x9.Up)), (51, (I x6.1.up))]) (L := [(c_edit_spot x6.1)]) (H := ⟨0, []⟩) rfl rfl rfl rfl rfl (astep_do rfl (ex_bin (vx := (I x9.Up)) (vy := (I x6.1.up)) rfl rfl eqlI_ok))) (dcons (dstep1 (Tm := [(52, (Bo (x9.Up == x6.1.up)))]) (L := [(c_edit_spot x6.1)]) (H := ⟨0, []⟩) rfl rfl rfl rfl rfl (astep_do rfl (ex_move (eV (v := (Bo (x9.Up == x6.1.up))) rfl)))) (dcons (dstep1 (Tm := [(0, (SL 5 c_api_Node t0)), (53, (Bo (x9.Up == x6.1.up)))]) (L := [(c_edit_spot x6.1)]) (H := ⟨0, []⟩) rfl rfl rfl rfl rfl (astep_guard (v := (SL 5 c_api_Node t0)) ((x9.Up == x6.1.up) == true) rfl (fun hc => ex_move (eV (v := (SL 5 c_api_Node t0)) rfl)))) (dcons (dstep1 (Tm := [(8, (I x1.1)), (53, (Bo (x9.Up == x6.1.up)))]) (L := [(c_edit_spot x6.1)]) (H := ⟨0, []⟩) rfl rfl rfl rfl rfl (astep_guard (v := (I x1.1)) ((x9.Up == x6.1.up) == true) rfl (fun hc => ex_move (eV (v := (I x1.1)) rfl)))) (dcons (dstep1 (Tm := [(54, (cond ((x9.Up == x6.1.up) == true) (SL 5 c_api_Node t0) skipV)), (55, (cond ((x9.Up == x6.1.up) == true) (I x1.1) skipV)), (53, (Bo (x9.Up == x6.1.up)))]) (L := [(c_edit_spot x6.1)]) (H := ⟨0, []⟩) rfl rfl rfl rfl rfl (astep_guard (v := (DP (c_api_Node x10))) ((x9.Up == x6.1.up) == true) rfl (fun hc => tx_idxD (c := c_api_Node) (xs := t0) (i := x1.1) ce_api_Node Tryd.underlying25 s_39 (cond_of hc) (cond_of hc) (gd_of hc hx10)))) (dcons (dstep1 (Tm := [(56, (cond ((x9.Up == x6.1.up) == true) (DP (c_api_Node x10)) skipV)), (53, (Bo (x9.Up == x6.1.up)))]) (L := [(c_edit_spot x6.1)]) (H := ⟨0, []⟩) rfl rfl rfl rfl rfl (astep_guard (v := (DP (List.drop 2 (c_api_Node x10)))) ((x9.Up == x6.1.up) == true) rfl (fun hc => ex_fieldAddrD (vs := (List.drop 2 (c_api_Node x10))) Tryd.underlying39 rfl s_9 (by decide) (cond_of hc) rfl))) (dcons (dstep1 (Tm := [(57, (cond ((x9.Up == x6.1.up) == true) (DP (List.drop 2 (c_api_Node x10))) skipV)), (53, (Bo (x9.Up == x6.1.up)))]) (L := [(c_edit_spot x6.1)]) (H := ⟨0, []⟩) rfl rfl rfl rfl rfl (astep_guard (v := (S x10.Name)) ((x9.Up == x6.1.up) == true) rfl (fun hc => tx_ldD1 (v := (S x10.Name)) Tryd.underlying9 rfl (cond_of hc) rfl))) (dcons (dstep1 (Tm := [(10, (LP 0 0)), (53, (Bo (x9.Up == x6.1.up)))]) (L := [(c_edit_spot x6.1)]) (H := ⟨0, []⟩) rfl rfl rfl rfl rfl (astep_guard (v := (LP 0 2)) ((x9.Up == x6.1.up) == true) rfl (fun hc => ex_fieldAddr (v := (LP 0 2)) Tryd.underlying51 rfl s_9 (by decide) rfl rfl))) (dcons (dstep1 (Tm := [(59, (cond ((x9.Up == x6.1.up) == true) (LP 0 2) skipV)), (53, (Bo (x9.Up == x6.1.up)))]) (L := [(c_edit_spot x6.1)]) (H := ⟨0, []⟩) rfl rfl rfl rfl rfl (astep_guard (v := (S x6.1.name)) ((x9.Up == x6.1.up) == true) rfl (fun hc => tx_ldL1 (v := (S x6.1.name)) Tryd.underlying9 rfl (cond_of hc) rfl rfl))) (dcons (dstep1 (Tm := [(58, (cond ((x9.Up == x6.1.up) == true) (S x10.Name) skipV)), (60, (cond ((x9.Up == x6.1.up) == true) (S x6.1.name) skipV)), (53, (Bo (x9.Up == x6.1.up)))]) (L := [(c_edit_spot x6.1)]) (H := ⟨0, []⟩) rfl rfl rfl rfl rfl (astep_guard (v := (Bo (x10.Name == x6.1.name))) ((x9.Up == x6.1.up) == true) rfl (fun hc => ex_bin (vx := (S x10.Name)) (vy := (S x6.1.name)) (cond_of hc) (cond_of hc) eqlS_ok))) (dcons (dstep1 (Tm := [(53, (Bo (x9.Up == x6.1.up))), (61, (cond ((x9.Up == x6.1.up) == true) (Bo (x10.Name == x6.1.name)) skipV))]) (L := [(c_edit_spot x6.1)]) (H := ⟨0, []⟩) rfl rfl rfl rfl rfl (astep_do rfl (ex_pick rfl pkAnd))) (dcons (dstep1 (Tm := [(62, (Bo ((x9.Up == x6.1.up) && (x10.Name == x6.1.name))))]) (L := [(c_edit_spot x6.1)]) (H := ⟨0, []⟩) rfl rfl rfl rfl rfl (astep_do rfl (ex_assign (eV (v := (Bo ((x9.Up == x6.1.up) && (x10.Name == x6.1.name)))) rfl)))) dnil))))))))))))))))))) ⟨rfl, rfl⟩) (by kernel_rfl) (by kernel_rfl) ?_
          show AWp _ _ _ _
          rcases Bool.eq_false_or_eq_true ((x9.Up == x6.1.up) && (x10.Name == x6.1.name)) with hb11 | hb11
          · rw [condT hb11] at h
            refine awp_condT (boT hb11) ?_
            refine awp_keepE [0, 9] 0 0 (st' := ⟨75, 0, [(0, (SL 5 c_api_Node t0)), (9, (I x6.2))], [], ⟨0, []⟩⟩) (by kernel_rfl) (by kernel_rfl) ?_
            refine awp_skip ?_
            exact (Exists.intro x6.2 (And.intro rfl h))
          · rw [condF hb11] at h
            refine awp_condF (boF hb11) ?_
            refine awp_seq ?_
            refine awp_region ?_
            refine arun_do rfl rfl rfl (tx_ldLA (vs := (c_edit_spot x6.1)) Tryd.underlying51 rfl s_51 (by decide) rfl rfl rfl rfl) ?_
            obtain ⟨x12, hx12, h⟩ := bindS h
            refine arun_do rfl rfl rfl (ex_call0 (vs := [(Value.agg (c_edit_spot x6.1).toArray)]) (v := (Bo x12)) rfl en_20 (cargs (evs rfl evs_nil)) rfl (ok_edit_spot_taken x6.1 x12 hx12) rfl) ?_
            refine arun_do rfl rfl rfl (ex_assign (eV (v := (Bo x12)) rfl)) ?_
            refine arun_keepE [0, 8, 10, 63] 1 0 (st' := ⟨75, 0, [(0, (SL 5 c_api_Node t0)), (8, (I x1.1)), (10, (LP 0 0)), (63, (Bo x12))], [(c_edit_spot x6.1)], ⟨0, []⟩⟩) (by kernel_rfl) (by kernel_rfl) ?_
            show AWp _ _ _ _
            rcases Bool.eq_false_or_eq_true x12 with hb13 | hb13
            · rw [condT hb13] at h
              refine awp_condT (boT hb13) ?_
              refine awp_region ?_
              refine arun_do rfl rfl rfl (ex_assign (eV (v := (I 3)) rfl)) ?_
              refine arun_keepE [0, 9] 0 0 (st' := ⟨75, 0, [(0, (SL 5 c_api_Node t0)), (9, (I 3))], [], ⟨0, []⟩⟩) (by kernel_rfl) (by kernel_rfl) ?_
              exact (Exists.intro 3 (And.intro rfl h))
            · rw [condF hb13] at h
              refine awp_condF (boF hb13) ?_
              refine awp_seq ?_
              refine awp_region ?_
              refine arun_do rfl rfl rfl (ex_move (eV (v := (SL 5 c_api_Node t0)) rfl)) ?_
              refine arun_do rfl rfl rfl (ex_fieldAddr (v := (LP 0 1)) Tryd.underlying51 rfl s_3 (by decide) rfl rfl) ?_
              refine arun_do rfl rfl rfl (tx_ldL1 (v := (I x6.1.up)) Tryd.underlying3 rfl rfl rfl rfl) ?_
              refine arun_do rfl rfl rfl (ex_move (eV (v := (I x1.1)) rfl)) ?_
              obtain ⟨x14, hx14, h⟩ := bindS h
              refine arun_do rfl rfl rfl (ex_call0 (vs := [(SL 5 c_api_Node t0), (I x6.1.up), (I x1.1)]) (v := (Bo x14)) rfl en_25 (cargs (evs rfl (evs rfl (evs rfl evs_nil)))) rfl (ok_walk_Within t0 x6.1.up x1.1 x14 hx14) rfl) ?_
              refine arun_do rfl rfl rfl (ex_assign (eV (v := (Bo x14)) rfl)) ?_
              refine arun_keepE [0, 8, 10, 66] 1 0 (st' := ⟨75, 0, [(0, (SL 5 c_api_Node t0)), (8, (I x1.1)), (10, (LP 0 0)), (66, (Bo x14))], [(c_edit_spot x6.1)], ⟨0, []⟩⟩) (by kernel_rfl) (by kernel_rfl) ?_
              show AWp _ _ _ _
              rcases Bool.eq_false_or_eq_true x14 with hb15 | hb15
              · rw [condT hb15] at h
                refine awp_condT (boT hb15) ?_
                refine awp_region ?_
                refine arun_do rfl rfl rfl (ex_assign (eV (v := (I 7)) rfl)) ?_
                refine arun_keepE [0, 9] 0 0 (st' := ⟨75, 0, [(0, (SL 5 c_api_Node t0)), (9, (I 7))], [], ⟨0, []⟩⟩) (by kernel_rfl) (by kernel_rfl) ?_
                exact (Exists.intro 7 (And.intro rfl h))
              · rw [condF hb15] at h
                refine awp_condF (boF hb15) ?_
                refine awp_seq ?_
                obtain ⟨x16, hx16, h⟩ := bindS h
                obtain ⟨x17, hx17, h⟩ := bindS h
                refine awp_kn [6, 7] 0 0 (st' := ⟨75, 0, [(6, (SL 5 c_api_Node x17)), (7, (I 0))], [], ⟨0, []⟩⟩) (awp_draw (T := [(Value.agg (c_edit_spot x6.1).toArray), (I x1.1), (SL 5 c_api_Node t0), (I x1.1), (DP (c_api_Node x16)), (Value.agg (c_api_Node x16).toArray), (SL 5 c_api_Node x17), (SL 5 c_api_Node x17), (I 0)]) (LH := [([(c_edit_spot x6.1)], ⟨0, []⟩)]) (D := [⟨[(10, none)], [], [0], false⟩, ⟨[(8, none)], [], [0], false⟩, ⟨[(0, none)], [], [0], false⟩, ⟨[(8, none)], [], [0], false⟩, ⟨[(36, some 2), (37, some 3)], [2, 3], [0], false⟩, ⟨[(38, some 4)], [2, 3, 4], [0], false⟩, ⟨[(34, some 0), (35, some 1), (39, some 5)], [0, 1, 2, 3, 4, 5], [0], false⟩, ⟨[(40, some 6)], [0, 1, 2, 3, 4, 5, 6], [0], false⟩, ⟨[], [0, 1, 2, 3, 4, 5, 6, 7], [0], false⟩]) (S := []) (plan := [0, 1, 2, 3, 4, 5, 6, 7, 8]) mo (by kernel_rfl) rfl rfl rfl (dcons (dstep1 (Tm := [(10, (LP 0 0))]) (L := [(c_edit_spot x6.1)]) (H := ⟨0, []⟩) rfl rfl rfl rfl rfl (astep_do rfl (tx_ldLA (vs := (c_edit_spot x6.1)) Tryd.underlying51 rfl s_51 (by decide) rfl rfl rfl rfl))) (dcons (dstep1 (Tm := [(8, (I x1.1))]) (L := [(c_edit_spot x6.1)]) (H := ⟨0, []⟩) rfl rfl rfl rfl rfl (astep_do rfl (ex_move (eV (v := (I x1.1)) rfl)))) (dcons (dstep1 (Tm := [(0, (SL 5 c_api_Node t0))]) (L := [(c_edit_spot x6.1)]) (H := ⟨0, []⟩) rfl rfl rfl rfl rfl (astep_do rfl (ex_move (eV (v := (SL 5 c_api_Node t0)) rfl)))) (dcons (dstep1 (Tm := [(8, (I x1.1))]) (L := [(c_edit_spot x6.1)]) (H := ⟨0, []⟩) rfl rfl rfl rfl rfl (astep_do rfl (ex_move (eV (v := (I x1.1)) rfl)))) (dcons (dstep1 (Tm := [(36, (SL 5 c_api_Node t0)), (37, (I x1.1))]) (L := [(c_edit_spot x6.1)]) (H := ⟨0, []⟩) rfl rfl rfl rfl rfl (astep_do rfl (tx_idxD (c := c_api_Node) (xs := t0) (i := x1.1) ce_api_Node Tryd.underlying25 s_39 rfl rfl hx16))) (dcons (dstep1 (Tm := [(38, (DP (c_api_Node x16)))]) (L := [(c_edit_spot x6.1)]) (H := ⟨0, []⟩) rfl rfl rfl rfl rfl (astep_do rfl (tx_ldDA (vs := (c_api_Node x16)) Tryd.underlying39 rfl s_39 (by decide) rfl (Nat.le_of_ble_eq_true rfl) rfl))) (dcons (dstep1 (Tm := [(34, (Value.agg (c_edit_spot x6.1).toArray)), (35, (I x1.1)), (39, (Value.agg (c_api_Node x16).toArray))]) (L := [(c_edit_spot x6.1)]) (H := ⟨0, []⟩) rfl rfl rfl rfl rfl (astep_do rfl (ex_call0 (vs := [(Value.agg (c_edit_spot x6.1).toArray), (I x1.1), (Value.agg (c_api_Node x16).toArray)]) (v := (SL 5 c_api_Node x17)) rfl en_21 (cargs (evs rfl (evs rfl (evs rfl evs_nil)))) rfl (ok_edit_spot_put x6.1 x1.1 x16 x17 hx17) rfl))) (dcons (dstep1 (Tm := [(40, (SL 5 c_api_Node x17))]) (L := [(c_edit_spot x6.1)]) (H := ⟨0, []⟩) rfl rfl rfl rfl rfl (astep_do rfl (ex_assign (eV (v := (SL 5 c_api_Node x17)) rfl)))) (dcons (dstep1 (Tm := []) (L := [(c_edit_spot x6.1)]) (H := ⟨0, []⟩) rfl rfl rfl rfl rfl (astep_do rfl (ex_assign (eV (v := (I 0)) rfl)))) dnil))))))))) ⟨rfl, rfl⟩) (by kernel_rfl) (by kernel_rfl) ?_
                show AWp _ _ _ _
                refine awp_ret ?_
                cases h
                exact aresN rfl (L2.cons (rtmp rfl (eV rfl)) (L2.cons (rtmp rfl (eV rfl)) L2.nil)) rfl
      · rintro s ⟨y7, rfl, h⟩
        unfold M_edit_Move_k2 at h
        refine awp_seq ?_
        refine awp_region ?_
        refine arun_do rfl rfl rfl (ex_move (eV (v := (SL 5 c_api_Node t0)) rfl)) ?_
        obtain ⟨x18, hx18, h⟩ := bindS h
        refine arun_do rfl rfl rfl (ex_call0 (vs := [(SL 5 c_api_Node t0)]) (v := (SL 5 c_api_Node x18)) rfl en_22 (cargs (evs rfl evs_nil)) rfl (ok_slices_Clone_api_Set_api_Node t0 x18 hx18) rfl) ?_
        refine arun_do rfl rfl rfl (ex_move (eV (v := (I y7)) rfl)) ?_
        refine arun_do rfl rfl rfl (ex_assign (eV (v := (SL 5 c_api_Node x18)) rfl)) ?_
        refine arun_do rfl rfl rfl (ex_assign (eV (v := (I y7)) rfl)) ?_
        refine arun_keepE [6, 7] 0 0 (st' := ⟨75, 0, [(6, (SL 5 c_api_Node x18)), (7, (I y7))], [], ⟨0, []⟩⟩) (by kernel_rfl) (by kernel_rfl) ?_
        show AWp _ _ _ _
        refine awp_ret ?_
        cases h
        exact aresN rfl (L2.cons (rtmp rfl (eV rfl)) (L2.cons (rtmp rfl (eV rfl)) L2.nil)) rfl


theorem okw_edit_Move (t0 : (List G_api_Node)) (t1 : Str) (t2 : Str) (r : ((List G_api_Node) × Int)) (h : M_edit_Move t0 t1 t2 = some r) : FOw2 Tryd.prog 10 [(SL 5 c_api_Node t0), (S t1), (S t2)] r.1.length r.2 ⟨5, (r.1).flatMap c_api_Node, true⟩ := by
  refine FOw2.of_body (n := 75) Tryd.func10 rfl Tryd.ntmps10 rfl rfl rfl ?_
  show AWp _ _ _ ⟨75, 0, [(0, (SL 5 c_api_Node t0)), (1, (S t1)), (2, (S t2))], [], ⟨0, []⟩⟩
  unfold M_edit_Move at h
  refine awp_seq ?_
  refine awp_region ?_
  refine arun_do rfl rfl rfl (ex_assign (eV (v := (Value.slice none 0 0)) rfl)) ?_
  refine arun_do rfl rfl rfl (ex_assign (eV (v := (I 0)) rfl)) ?_
  refine arun_keepE [0, 1, 2] 0 0 (st' := ⟨75, 0, [(0, (SL 5 c_api_Node t0)), (1, (S t1)), (2, (S t2))], [], ⟨0, []⟩⟩) (by kernel_rfl) (by kernel_rfl) ?_
  show AWp _ _ _ _
  refine awp_seq ?_
  refine awp_region ?_
  refine arun_do rfl rfl rfl (ex_move (eV (v := (SL 5 c_api_Node t0)) rfl)) ?_
  refine arun_do rfl rfl rfl (ex_move (eV (v := (S t1)) rfl)) ?_
  obtain ⟨x1, hx1, h⟩ := bindS h
  refine arun_do rfl rfl rfl (ex_call0 (vs := [(SL 5 c_api_Node t0), (S t1)]) (v := (Value.tuple #[(I x1.1), (I x1.2)])) rfl en_23 (cargs (evs rfl (evs rfl evs_nil))) rfl (ok_walk_Find t0 t1 x1 hx1) rfl) ?_
  refine arun_do rfl rfl rfl (ex_move (eV (v := (Value.tuple #[(I x1.1), (I x1.2)])) rfl)) ?_
  refine arun_do rfl rfl rfl (ex_extract (vx := (Value.tuple #[(I x1.1), (I x1.2)])) (v := (I x1.1)) rfl rfl) ?_
  refine arun_do rfl rfl rfl (ex_extract (vx := (Value.tuple #[(I x1.1), (I x1.2)])) (v := (I x1.2)) rfl rfl) ?_
  refine arun_do rfl rfl rfl (ex_assign (eV (v := (I x1.1)) rfl)) ?_
  refine arun_do rfl rfl rfl (ex_assign (eV (v := (I x1.2)) rfl)) ?_
  refine arun_keepE [0, 2, 8, 9] 0 0 (st' := ⟨75, 0, [(0, (SL 5 c_api_Node t0)), (2, (S t2)), (8, (I x1.1)), (9, (I x1.2))], [], ⟨0, []⟩⟩) (by kernel_rfl) (by kernel_rfl) ?_
  show AWp _ _ _ _
  refine awp_seqJ (fun s => ∃ (y2 : Int), s = ⟨75, 0, [(0, (SL 5 c_api_Node t0)), (2, (S t2)), (8, (I x1.1)), (9, (I y2))], [], ⟨0, []⟩⟩ ∧ M_edit_Move_k1 t0 t2 x1 y2 = some r) ?_ ?_
  · refine awp_seq ?_
    refine awp_region ?_
    refine arun_do rfl rfl rfl (ex_move (eV (v := (I x1.2)) rfl)) ?_
    refine arun_do rfl rfl rfl (ex_bin (vx := (I x1.2)) (vy := (I 0)) rfl rfl eqlI_ok) ?_
    refine arun_do rfl rfl rfl (ex_move (eV (v := (Bo (x1.2 == 0))) rfl)) ?_
    refine arun_guard (v := (I x1.1)) ((x1.2 == 0) == true) rfl rfl rfl (fun hc => ex_move (eV (v := (I x1.1)) rfl)) ?_
    refine arun_guard (v := (Bo (x1.1 == 0))) ((x1.2 == 0) == true) rfl rfl rfl (fun hc => ex_bin (vx := (I x1.1)) (vy := (I 0)) (cond_of hc) rfl eqlI_ok) ?_
    refine arun_do rfl rfl rfl (ex_pick rfl pkAnd) ?_
    refine arun_keepE [0, 2, 8, 9, 22] 0 0 (st' := ⟨75, 0, [(0, (SL 5 c_api_Node t0)), (2, (S t2)), (8, (I x1.1)), (9, (I x1.2)), (22, (Bo ((x1.2 == 0) && (x1.1 == 0))))], [], ⟨0, []⟩⟩) (by kernel_rfl) (by kernel_rfl) ?_
    show AWp _ _ _ _
    rcases Bool.eq_false_or_eq_true ((x1.2 == 0) && (x1.1 == 0)) with hb3 | hb3
    · rw [condT hb3] at h
      refine awp_condT (boT hb3) ?_
      refine awp_region ?_
      refine arun_do rfl rfl rfl (ex_assign (eV (v := (I 4)) rfl)) ?_
      refine arun_keepE [0, 2, 8, 9] 0 0 (st' := ⟨75, 0, [(0, (SL 5 c_api_Node t0)), (2, (S t2)), (8, (I x1.1)), (9, (I 4))], [], ⟨0, []⟩⟩) (by kernel_rfl) (by kernel_rfl) ?_
      exact (Exists.intro 4 (And.intro rfl h))
    · rw [condF hb3] at h
      refine awp_condF (boF hb3) ?_
      refine awp_keepE [0, 2, 8, 9] 0 0 (st' := ⟨75, 0, [(0, (SL 5 c_api_Node t0)), (2, (S t2)), (8, (I x1.1)), (9, (I x1.2))], [], ⟨0, []⟩⟩) (by kernel_rfl) (by kernel_rfl) ?_
      refine awp_skip ?_
      exact (Exists.intro x1.2 (And.intro rfl h))
  · rintro s ⟨y2, rfl, h⟩
    unfold M_edit_Move_k1 at h
    refine awp_seq ?_
    refine awp_seq ?_
    refine awp_region ?_
    refine arun_do rfl rfl rfl (ex_move (eV (v := (I y2)) rfl)) ?_
    refine arun_do rfl rfl rfl (ex_bin (vx := (I y2)) (vy := (I 0)) rfl rfl neqI_ok) ?_
    refine arun_keepE [0, 2, 8, 9, 24] 0 0 (st' := ⟨75, 0, [(0, (SL 5 c_api_Node t0)), (2, (S t2)), (8, (I x1.1)), (9, (I y2)), (24, (Bo (y2 != 0)))], [], ⟨0, []⟩⟩) (by kernel_rfl) (by kernel_rfl) ?_
    show AWp _ _ _ _
    rcases Bool.eq_false_or_eq_true (y2 != 0) with hb4 | hb4
    · rw [condT hb4] at h
      refine awp_condT (boT hb4) ?_
      refine awp_seq ?_
      refine awp_region ?_
      refine arun_do rfl rfl rfl (ex_move (eV (v := (SL 5 c_api_Node t0)) rfl)) ?_
      obtain ⟨x5, hx5, h⟩ := bindS h
      refine arun_do rfl rfl rfl (ex_callOw (vs := [(SL 5 c_api_Node t0)]) (k := 0) (len := x5.length) (b := ⟨5, ((x5).flatMap c_api_Node), true⟩) (H' := ⟨1, [(0, ⟨5, ((x5).flatMap c_api_Node), true⟩)]⟩) rfl en_22 (cargs (evs rfl evs_nil)) rfl (okw_slices_Clone_api_Set_api_Node t0 x5 hx5) rfl rfl) ?_
      refine arun_do rfl rfl rfl (ex_move (eV (v := (I y2)) rfl)) ?_
      refine arun_do rfl rfl rfl (ex_assign (eV (v := (GV 0 x5.length)) rfl)) ?_
      refine arun_do rfl rfl rfl (ex_assign (eV (v := (I y2)) rfl)) ?_
      refine arun_keepE [6, 7] 0 1 (st' := ⟨75, 0, [(6, (GV 0 x5.length)), (7, (I y2))], [], ⟨1, [(0, ⟨5, ((x5).flatMap c_api_Node), true⟩)]⟩⟩) (by kernel_rfl) (by kernel_rfl) ?_
      show AWp _ _ _ _
      refine awp_ret ?_
      cases h
      exact And.intro (aresN rfl (L2.cons (rtmp rfl (eV rfl)) (L2.cons (rtmp rfl (eV rfl)) L2.nil)) rfl) (And.intro rfl rfl)
    · rw [condF hb4] at h
      refine awp_condF (boF hb4) ?_
      refine awp_skip ?_
      show AWp _ _ _ _
      refine awp_seq ?_
      refine awp_region ?_
      refine arun_do rfl rfl rfl (ex_move (eV (v := (SL 5 c_api_Node t0)) rfl)) ?_
      refine arun_do rfl rfl rfl (ex_move (eV (v := (S t2)) rfl)) ?_
      obtain ⟨x6, hx6, h⟩ := bindS h
      refine arun_do rfl rfl rfl (ex_call0 (vs := [(SL 5 c_api_Node t0), (S t2)]) (v := (Value.tuple #[(Value.agg (c_edit_spot x6.1).toArray), (I x6.2)])) rfl en_18 (cargs (evs rfl (evs rfl evs_nil))) rfl (ok_edit_place t0 t2 x6 hx6) rfl) ?_
      refine arun_do rfl rfl rfl (ex_move (eV (v := (Value.tuple #[(Value.agg (c_edit_spot x6.1).toArray), (I x6.2)])) rfl)) ?_
      refine arun_do rfl rfl rfl (ex_extract (vx := (Value.tuple #[(Value.agg (c_edit_spot x6.1).toArray), (I x6.2)])) (v := (Value.agg (c_edit_spot x6.1).toArray)) rfl rfl) ?_
      refine arun_do rfl rfl rfl (ex_extract (vx := (Value.tuple #[(Value.agg (c_edit_spot x6.1).toArray), (I x6.2)])) (v := (I x6.2)) rfl rfl) ?_
      refine arun_do rfl rfl rfl (ex_allocW (k := 0) (zs := (c_edit_spot (G_edit_spot.mk [] 0 []))) (L' := [(c_edit_spot (G_edit_spot.mk [] 0 []))]) z_51 rfl (by repeat (first | exact trivial | refine ⟨.inl rfl, ?_⟩ | refine ⟨.inr ⟨rfl, _, rfl⟩, ?_⟩)) rfl rfl) ?_
      refine arun_do0 rfl rfl (ex_storeL (vy := (Value.agg (c_edit_spot x6.1).toArray)) (cs := (c_edit_spot (G_edit_spot.mk [] 0 []))) (vs := (c_edit_spot x6.1)) (L' := [(c_edit_spot x6.1)]) rfl (eV (v := (Value.agg (c_edit_spot x6.1).toArray)) rfl) rfl s_51 rfl (Nat.le_of_ble_eq_true rfl) (by kernel_rfl)) ?_
      refine arun_do rfl rfl rfl (ex_assign (eV (v := (I x6.2)) rfl)) ?_
      refine arun_keepE [0, 8, 9, 10] 1 0 (st' := ⟨75, 0, [(0, (SL 5 c_api_Node t0)), (8, (I x1.1)), (9, (I x6.2)), (10, (LP 0 0))], [(c_edit_spot x6.1)], ⟨0, []⟩⟩) (by kernel_rfl) (by kernel_rfl) ?_
      show AWp _ _ _ _
      refine awp_seqJ (fun s => ∃ (y7 : Int), s = ⟨75, 0, [(0, (SL 5 c_api_Node t0)), (9, (I y7))], [], ⟨0, []⟩⟩ ∧ M_edit_Move_k2 t0 y7 = some r) ?_ ?_
      · refine awp_block ?_
        refine awp_seq ?_
        refine awp_region ?_
        refine arun_do rfl rfl rfl (ex_move (eV (v := (I x6.2)) rfl)) ?_
        refine arun_do rfl rfl rfl (ex_bin (vx := (I x6.2)) (vy := (I 0)) rfl rfl neqI_ok) ?_
        refine arun_do rfl rfl rfl (ex_assign (eV (v := (Bo (x6.2 != 0))) rfl)) ?_
        refine arun_keepE [0, 8, 9, 10, 41] 1 0 (st' := ⟨75, 0, [(0, (SL 5 c_api_Node t0)), (8, (I x1.1)), (9, (I x6.2)), (10, (LP 0 0)), (41, (Bo (x6.2 != 0)))], [(c_edit_spot x6.1)], ⟨0, []⟩⟩) (by kernel_rfl) (by kernel_rfl) ?_
        show AWp _ _ _ _
        rcases Bool.eq_false_or_eq_true (x6.2 != 0) with hb8 | hb8
        · rw [condT hb8] at h
          refine awp_condT (boT hb8) ?_
          refine awp_keepE [0, 9] 0 0 (st' := ⟨75, 0, [(0, (SL 5 c_api_Node t0)), (9, (I x6.2))], [], ⟨0, []⟩⟩) (by kernel_rfl) (by kernel_rfl) ?_
          refine awp_skip ?_
          exact (Exists.intro x6.2 (And.intro rfl h))
        · rw [condF hb8] at h
          refine awp_condF (boF hb8) ?_
          refine awp_seq ?_
          obtain ⟨x9, hx9, h⟩ := bindS h
          obtain ⟨x10, hx10, h⟩ := bindS h
          refine awp_kn [0, 8, 9, 10, 44] 1 0 (st' := ⟨75, 0, [(0, (SL 5 c_api_Node t0)), (8, (I x1.1)), (9, (I x6.2)), (10, (LP 0 0)), (44, (Bo ((x9.Up == x6.1.up) && (x10.Name == x6.1.name))))], [(c_edit_spot x6.1)], ⟨0, []⟩⟩) (awp_draw (T := [(SL 5 c_api_Node t0), (I x1.1), (DP (c_api_Node x9)), (DP (List.drop 1 (c_api_Node x9))), (I x9.Up), (LP 0 1), (I x6.1.up), (Bo (x9.Up == x6.1.up)), (Bo (x9.Up == x6.1.up)), (cond ((x9.Up == x6.1.up) == true) (SL 5 c_api_Node t0) skipV), (cond ((x9.Up == x6.1.up) == true) (I x1.1) skipV), (cond ((x9.Up == x6.1.up) == true) (DP (c_api_Node x10)) skipV), (cond ((x9.Up == x6.1.up) == true) (DP (List.drop 2 (c_api_Node x10))) skipV), (cond ((x9.Up == x6.1.up) == true) (S x10.Name) skipV), (cond ((x9.Up == x6.1.up) == true) (LP 0 2) skipV), (cond ((x9.Up == x6.1.up) == true) (S x6.1.name) skipV), (cond ((x9.Up == x6.1.up) == true) (Bo (x10.Name == x6.1.name)) skipV), (Bo ((x9.Up == x6.1.up) && (x10.Name == x6.1.name))), (Bo ((x9.Up == x6.1.up) && (x10.Name == x6.1.name)))]) (LH := [([(c_edit_spot x6.1)], ⟨0, []⟩)]) (D := [⟨[(0, none)], [], [0], false⟩, ⟨[(8, none)], [], [0], false⟩, ⟨[(45, some 0), (46, some 1)], [0, 1], [0], false⟩, ⟨[(47, some 2)], [0, 1, 2], [0], false⟩, ⟨[(48, some 3)], [0, 1, 2, 3], [0], false⟩, ⟨[(10, none)], [], [0], false⟩, ⟨[(50, some 5)], [5], [0], false⟩, ⟨[(49, some 4), (51, some 6)], [0, 1, 2, 3, 4, 5, 6], [0], false⟩, ⟨[(52, some 7)], [0, 1, 2, 3, 4, 5, 6, 7], [0], false⟩, ⟨[(0, none), (53, some 8)], [0, 1, 2, 3, 4, 5, 6, 7, 8], [0], false⟩, ⟨[(8, none), (53, some 8)], [0, 1, 2, 3, 4, 5, 6, 7, 8], [0], false⟩, ⟨[(54, some 9), (55, some 10), (53, some 8)], [0, 1, 2, 3, 4, 5, 6, 7, 8, 9, 10], [0], false⟩, ⟨[(56, some 11), (53, some 8)], [0, 1, 2, 3, 4, 5, 6, 7, 8, 9, 10, 11], [0], false⟩, ⟨[(57, some 12), (53, some 8)], [0, 1, 2, 3, 4, 5, 6, 7, 8, 9, 10, 11, 12], [0], false⟩, ⟨[(10, none), (53, some 8)], [0, 1, 2, 3, 4, 5, 6, 7, 8], [0], false⟩, ⟨[(59, some 14), (53, some 8)], [0, 1, 2, 3, 4, 5, 6, 7, 8, 14], [0], false⟩, ⟨[(58, some 13), (60, some 15), (53, some 8)], [0, 1, 2, 3, 4, 5, 6, 7, 8, 9, 10, 11, 12, 13, 14, 15], [0], false⟩, ⟨[(53, some 8), (61, some 16)], [0, 1, 2, 3, 4, 5, 6, 7, 8, 9, 10, 11, 12, 13, 14, 15, 16], [0], false⟩, ⟨[(62, some 17)], [0, 1, 2, 3, 4, 5, 6, 7, 8, 9, 10, 11, 12, 13, 14, 15, 16, 17], [0], false⟩]) (S := []) (plan := [0, 1, 2, 3, 4, 5, 6, 7, 8, 9, 10, 11, 12, 13, 14, 15, 16, 17, 18]) mo (by kernel_rfl) rfl rfl rfl (dcons (dstep1 (Tm := [(0, (SL 5 c_api_Node t0))]) (L := [(c_edit_spot x6.1)]) (H := ⟨0, []⟩) rfl rfl rfl rfl rfl (astep_do rfl (ex_move (eV (v := (SL 5 c_api_Node t0)) rfl)))) (dcons (dstep1 (Tm := [(8, (I x1.1))]) (L := [(c_edit_spot x6.1)]) (H := ⟨0, []⟩) rfl rfl rfl rfl rfl (astep_do rfl (ex_move (eV (v := (I x1.1)) rfl)))) (dcons (dstep1 (Tm := [(45, (SL 5 c_api_Node t0)), (46, (I x1.1))]) (L := [(c_edit_spot x6.1)]) (H := ⟨0, []⟩) rfl rfl rfl rfl rfl (astep_do rfl (tx_idxD (c := c_api_Node) (xs := t0) (i := x1.1) ce_api_Node Tryd.underlying25 s_39 rfl rfl hx9))) (dcons (dstep1 (Tm := [(47, (DP (c_api_Node x9)))]) (L := [(c_edit_spot x6.1)]) (H := ⟨0, []⟩) rfl rfl rfl rfl rfl (astep_do rfl (ex_fieldAddrD (vs := (List.drop 1 (c_api_Node x9))) Tryd.underlying39 rfl s_3 (by decide) rfl rfl))) (dcons (dstep1 (Tm := [(48, (DP (List.drop 1 (c_api_Node x9))))]) (L := [(c_edit_spot x6.1)]) (H := ⟨0, []⟩) rfl rfl rfl rfl rfl (astep_do rfl (tx_ldD1 (v := (I x9.Up)) Tryd.underlying3 rfl rfl rfl))) (dcons (dstep1 (Tm := [(10, (LP 0 0))]) (L := [(c_edit_spot x6.1)]) (H := ⟨0, []⟩) rfl rfl rfl rfl rfl (astep_do rfl (ex_fieldAddr (v := (LP 0 1)) Tryd.underlying51 rfl s_3 (by decide) rfl rfl))) (dcons (dstep1 (Tm := [(50, (LP 0 1))]) (L := [(c_edit_spot x6.1)]) (H := ⟨0, []⟩) rfl rfl rfl rfl rfl (astep_do rfl (tx_ldL1 (v := (I x6.1.up)) Tryd.underlying3 rfl rfl rfl rfl))) (dcons (dstep1 (Tm := [(49, (I x9.Up)), (51, (I x6.1.up))]) (L := [(c_edit_spot x6.1)]) (H := ⟨0, []⟩) rfl rfl rfl rfl rfl (astep_do rfl (ex_bin (vx := (I x9.Up)) (vy := (I x6.1.up)) rfl rfl eqlI_ok))) (dcons (dstep1 (Tm := [(52, (Bo (x9.Up == x6.1.up)))]) (L := [(c_edit_spot x6.1)]) (H := ⟨0, []⟩) rfl rfl rfl rfl rfl (astep_do rfl (ex_move (eV (v := (Bo (x9.Up == x6.1.up))) rfl)))) (dcons (dstep1 (Tm := [(0, (SL 5 c_api_Node t0)), (53, (Bo (x9.Up == x6.1.up)))]) (L := [(c_edit_spot x6.1)]) (H := ⟨0, []⟩) rfl rfl rfl rfl rfl (astep_guard (v := (SL 5 c_api_Node t0)) ((x9.Up == x6.1.up) == true) rfl (fun hc => ex_move (eV (v := (SL 5 c_api_Node t0)) rfl)))) (dcons (dstep1 (Tm := [(8, (I x1.1)), (53, (Bo (x9.Up == x6.1.up)))]) (L := [(c_edit_spot x6.1)]) (H := ⟨0, []⟩) rfl rfl rfl rfl rfl (astep_guard (v := (I x1.1)) ((x9.Up == x6.1.up) == true) rfl (fun hc => ex_move (eV (v := (I x1.1)) rfl)))) (dcons (dstep1 (Tm := [(54, (cond ((x9.Up == x6.1.up) == true) (SL 5 c_api_Node t0) skipV)), (55, (cond ((x9.Up == x6.1.up) == true) (I x1.1) skipV)), (53, (Bo (x9.Up == x6.1.up)))]) (L := [(c_edit_spot x6.1)]) (H := ⟨0, []⟩) rfl rfl rfl rfl rfl (astep_guard (v := (DP (c_api_Node x10))) ((x9.Up == x6.1.up) == true) rfl (fun hc => tx_idxD (c := c_api_Node) (xs := t0) (i := x1.1) ce_api_Node Tryd.underlying25 s_39 (cond_of hc) (cond_of hc) (gd_of hc hx10)))) (dcons (dstep1 (Tm := [(56, (cond ((x9.Up == x6.1.up) == true) (DP (c_api_Node x10)) skipV)), (53, (Bo (x9.Up == x6.1.up)))]) (L := [(c_edit_spot x6.1)]) (H := ⟨0, []⟩) rfl rfl rfl rfl rfl (astep_guard (v := (DP (List.drop 2 (c_api_Node x10)))) ((x9.Up == x6.1.up) == true) rfl (fun hc => ex_fieldAddrD (vs := (List.drop 2 (c_api_Node x10))) Tryd.underlying39 rfl s_9 (by decide) (cond_of hc) rfl))) (dcons (dstep1 (Tm := [(57, (cond ((x9.Up == x6.1.up) == true) (DP (List.drop 2 (c_api_Node x10))) skipV)), (53, (Bo (x9.Up == x6.1.up)))]) (L := [(c_edit_spot x6.1)]) (H := ⟨0, []⟩) rfl rfl rfl rfl rfl (astep_guard (v := (S x10.Name)) ((x9.Up == x6.1.up) == true) rfl (fun hc => tx_ldD1 (v := (S x10.Name)) Tryd.underlying9 rfl (cond_of hc) rfl))) (dcons (dstep1 (Tm := [(10, (LP 0 0)), (53, (Bo (x9.Up == x6.1.up)))]) (L := [(c_edit_spot x6.1)]) (H := ⟨0, []⟩) rfl rfl rfl rfl rfl (astep_guard (v := (LP 0 2)) ((x9.Up == x6.1.up) == true) rfl (fun hc => ex_fieldAddr (v := (LP 0 2)) Tryd.underlying51 rfl s_9 (by decide) rfl rfl))) (dcons (dstep1 (Tm := [(59, (cond ((x9.Up == x6.1.up) == true) (LP 0 2) skipV)), (53, (Bo (x9.Up == x6.1.up)))]) (L := [(c_edit_spot x6.1)]) (H := ⟨0, []⟩) rfl rfl rfl rfl rfl (astep_guard (v := (S x6.1.name)) ((x9.Up == x6.1.up) == true) rfl (fun hc => tx_ldL1 (v := (S x6.1.name)) Tryd.underlying9 rfl (cond_of hc) rfl rfl))) (dcons (dstep1 (Tm := [(58, (cond ((x9.Up == x6.1.up) == true) (S x10.Name) skipV)), (60, (cond ((x9.Up == x6.1.up) == true) (S x6.1.name) skipV)), (53, (Bo (x9.Up == x6.1.up)))]) (L := [(c_edit_spot x6.1)]) (H := ⟨0, []⟩) rfl rfl rfl rfl rfl (astep_guard (v := (Bo (x10.Name == x6.1.name))) ((x9.Up == x6.1.up) == true) rfl (fun hc => ex_bin (vx := (S x10.Name)) (vy := (S x6.1.name)) (cond_of hc) (cond_of hc) eqlS_ok))) (dcons (dstep1 (Tm := [(53, (Bo (x9.Up == x6.1.up))), (61, (cond ((x9.Up == x6.1.up) == true) (Bo (x10.Name == x6.1.name)) skipV))]) (L := [(c_edit_spot x6.1)]) (H := ⟨0, []⟩) rfl rfl rfl rfl rfl (astep_do rfl (ex_pick rfl pkAnd))) (dcons (dstep1 (Tm := [(62, (Bo ((x9.Up == x6.1.up) && (x10.Name == x6.1.name))))]) (L := [(c_edit_spot x6.1)]) (H := ⟨0, []⟩) rfl rfl rfl rfl rfl (astep_do rfl (ex_assign (eV (v := (Bo ((x9.Up == x6.1.up) && (x10.Name == x6.1.name)))) rfl)))) dnil))))))))))))))))))) ⟨rfl, rfl⟩) (by kernel_rfl) (by kernel_rfl) ?_
          show AWp _ _ _ _
          rcases Bool.eq_false_or_eq_true ((x9.Up == x6.1.up) && (x10.Name == x6.1.name)) with hb11 | hb11
          · rw [condT hb11] at h
            refine awp_condT (boT hb11) ?_
            refine awp_keepE [0, 9] 0 0 (st' := ⟨75, 0, [(0, (SL 5 c_api_Node t0)), (9, (I x6.2))], [], ⟨0, []⟩⟩) (by kernel_rfl) (by kernel_rfl) ?_
            refine awp_skip ?_
            exact (Exists.intro x6.2 (And.intro rfl h))
          · rw [condF hb11] at h
            refine awp_condF (boF hb11) ?_
            refine awp_seq ?_
            refine awp_region ?_
            refine arun_do rfl rfl rfl (tx_ldLA (vs := (c_edit_spot x6.1)) Tryd.underlying51 rfl s_51 (by decide) rfl rfl rfl rfl) ?_
            obtain ⟨x12, hx12, h⟩ := bindS h
            refine arun_do rfl rfl rfl (ex_call0 (vs := [(Value.agg (c_edit_spot x6.1).toArray)]) (v := (Bo x12)) rfl en_20 (cargs (evs rfl evs_nil)) rfl (ok_edit_spot_taken x6.1 x12 hx12) rfl) ?_
            refine arun_do rfl rfl rfl (ex_assign (eV (v := (Bo x12)) rfl)) ?_
            refine arun_keepE [0, 8, 10, 63] 1 0 (st' := ⟨75, 0, [(0, (SL 5 c_api_Node t0)), (8, (I x1.1)), (10, (LP 0 0)), (63, (Bo x12))], [(c_edit_spot x6.1)], ⟨0, []⟩⟩) (by kernel_rfl) (by kernel_rfl) ?_
            show AWp _ _ _ _
            rcases Bool.eq_false_or_eq_true x12 with hb13 | hb13
            · rw [condT hb13] at h
              refine awp_condT (boT hb13) ?_
              refine awp_region ?_
              refine arun_do rfl rfl rfl (ex_assign (eV (v := (I 3)) rfl)) ?_
              refine arun_keepE [0, 9] 0 0 (st' := ⟨75, 0, [(0, (SL 5 c_api_Node t0)), (9, (I 3))], [], ⟨0, []⟩⟩) (by kernel_rfl) (by kernel_rfl) ?_
              exact (Exists.intro 3 (And.intro rfl h))
            · rw [condF hb13] at h
              refine awp_condF (boF hb13) ?_
              refine awp_seq ?_
              refine awp_region ?_
              refine arun_do rfl rfl rfl (ex_move (eV (v := (SL 5 c_api_Node t0)) rfl)) ?_
              refine arun_do rfl rfl rfl (ex_fieldAddr (v := (LP 0 1)) Tryd.underlying51 rfl s_3 (by decide) rfl rfl) ?_
              refine arun_do rfl rfl rfl (tx_ldL1 (v := (I x6.1.up)) Tryd.underlying3 rfl rfl rfl rfl) ?_
              refine arun_do rfl rfl rfl (ex_move (eV (v := (I x1.1)) rfl)) ?_
              obtain ⟨x14, hx14, h⟩ := bindS h
              refine arun_do rfl rfl rfl (ex_call0 (vs := [(SL 5 c_api_Node t0), (I x6.1.up), (I x1.1)]) (v := (Bo x14)) rfl en_25 (cargs (evs rfl (evs rfl (evs rfl evs_nil)))) rfl (ok_walk_Within t0 x6.1.up x1.1 x14 hx14) rfl) ?_
              refine arun_do rfl rfl rfl (ex_assign (eV (v := (Bo x14)) rfl)) ?_
              refine arun_keepE [0, 8, 10, 66] 1 0 (st' := ⟨75, 0, [(0, (SL 5 c_api_Node t0)), (8, (I x1.1)), (10, (LP 0 0)), (66, (Bo x14))], [(c_edit_spot x6.1)], ⟨0, []⟩⟩) (by kernel_rfl) (by kernel_rfl) ?_
              show AWp _ _ _ _
              rcases Bool.eq_false_or_eq_true x14 with hb15 | hb15
              · rw [condT hb15] at h
                refine awp_condT (boT hb15) ?_
                refine awp_region ?_
                refine arun_do rfl rfl rfl (ex_assign (eV (v := (I 7)) rfl)) ?_
                refine arun_keepE [0, 9] 0 0 (st' := ⟨75, 0, [(0, (SL 5 c_api_Node t0)), (9, (I 7))], [], ⟨0, []⟩⟩) (by kernel_rfl) (by kernel_rfl) ?_
                exact (Exists.intro 7 (And.intro rfl h))
              · rw [condF hb15] at h
                refine awp_condF (boF hb15) ?_
                refine awp_seq ?_
                obtain ⟨x16, hx16, h⟩ := bindS h
                obtain ⟨x17, hx17, h⟩ := bindS h
                refine awp_kn [6, 7] 0 1 (st' := ⟨75, 0, [(6, (GV 0 x17.length)), (7, (I 0))], [], ⟨1, [(0, ⟨5, ((x17).flatMap c_api_Node), true⟩)]⟩⟩) (awp_draw (T := [(Value.agg (c_edit_spot x6.1).toArray), (I x1.1), (SL 5 c_api_Node t0), (I x1.1), (DP (c_api_Node x16)), (Value.agg (c_api_Node x16).toArray), (GV 0 x17.length), (GV 0 x17.length), (I 0)]) (LH := [([(c_edit_spot x6.1)], ⟨0, []⟩), ([(c_edit_spot x6.1)], ⟨1, [(0, ⟨5, ((x17).flatMap c_api_Node), true⟩)]⟩)]) (D := [⟨[(10, none)], [], [0], false⟩, ⟨[(8, none)], [], [0], false⟩, ⟨[(0, none)], [], [0], false⟩, ⟨[(8, none)], [], [0], false⟩, ⟨[(36, some 2), (37, some 3)], [2, 3], [0], false⟩, ⟨[(38, some 4)], [2, 3, 4], [0], false⟩, ⟨[(34, some 0), (35, some 1), (39, some 5)], [0, 1, 2, 3, 4, 5], [0], true⟩, ⟨[(40, some 6)], [0, 1, 2, 3, 4, 5, 6], [1], false⟩, ⟨[], [0, 1, 2, 3, 4, 5, 6, 7], [1], false⟩]) (S := [6]) (plan := [0, 1, 2, 3, 4, 5, 6, 7, 8]) mo (by kernel_rfl) rfl rfl rfl (dcons (dstep1 (Tm := [(10, (LP 0 0))]) (L := [(c_edit_spot x6.1)]) (H := ⟨0, []⟩) rfl rfl rfl rfl rfl (astep_do rfl (tx_ldLA (vs := (c_edit_spot x6.1)) Tryd.underlying51 rfl s_51 (by decide) rfl rfl rfl rfl))) (dcons (dstep1 (Tm := [(8, (I x1.1))]) (L := [(c_edit_spot x6.1)]) (H := ⟨0, []⟩) rfl rfl rfl rfl rfl (astep_do rfl (ex_move (eV (v := (I x1.1)) rfl)))) (dcons (dstep1 (Tm := [(0, (SL 5 c_api_Node t0))]) (L := [(c_edit_spot x6.1)]) (H := ⟨0, []⟩) rfl rfl rfl rfl rfl (astep_do rfl (ex_move (eV (v := (SL 5 c_api_Node t0)) rfl)))) (dcons (dstep1 (Tm := [(8, (I x1.1))]) (L := [(c_edit_spot x6.1)]) (H := ⟨0, []⟩) rfl rfl rfl rfl rfl (astep_do rfl (ex_move (eV (v := (I x1.1)) rfl)))) (dcons (dstep1 (Tm := [(36, (SL 5 c_api_Node t0)), (37, (I x1.1))]) (L := [(c_edit_spot x6.1)]) (H := ⟨0, []⟩) rfl rfl rfl rfl rfl (astep_do rfl (tx_idxD (c := c_api_Node) (xs := t0) (i := x1.1) ce_api_Node Tryd.underlying25 s_39 rfl rfl hx16))) (dcons (dstep1 (Tm := [(38, (DP (c_api_Node x16)))]) (L := [(c_edit_spot x6.1)]) (H := ⟨0, []⟩) rfl rfl rfl rfl rfl (astep_do rfl (tx_ldDA (vs := (c_api_Node x16)) Tryd.underlying39 rfl s_39 (by decide) rfl (Nat.le_of_ble_eq_true rfl) rfl))) (dcons (dstep1 (Tm := [(34, (Value.agg (c_edit_spot x6.1).toArray)), (35, (I x1.1)), (39, (Value.agg (c_api_Node x16).toArray))]) (L := [(c_edit_spot x6.1)]) (H := ⟨0, []⟩) rfl rfl rfl rfl rfl (astep_do rfl (ex_callOw (vs := [(Value.agg (c_edit_spot x6.1).toArray), (I x1.1), (Value.agg (c_api_Node x16).toArray)]) (k := 0) (len := x17.length) (b := ⟨5, ((x17).flatMap c_api_Node), true⟩) (H' := ⟨1, [(0, ⟨5, ((x17).flatMap c_api_Node), true⟩)]⟩) rfl en_21 (cargs (evs rfl (evs rfl (evs rfl evs_nil)))) rfl (okw_edit_spot_put x6.1 x1.1 x16 x17 hx17) rfl rfl))) (dcons (dstep1 (Tm := [(40, (GV 0 x17.length))]) (L := [(c_edit_spot x6.1)]) (H := ⟨1, [(0, ⟨5, ((x17).flatMap c_api_Node), true⟩)]⟩) rfl rfl rfl rfl rfl (astep_do rfl (ex_assign (eV (v := (GV 0 x17.length)) rfl)))) (dcons (dstep1 (Tm := []) (L := [(c_edit_spot x6.1)]) (H := ⟨1, [(0, ⟨5, ((x17).flatMap c_api_Node), true⟩)]⟩) rfl rfl rfl rfl rfl (astep_do rfl (ex_assign (eV (v := (I 0)) rfl)))) dnil))))))))) ⟨rfl, rfl⟩) (by kernel_rfl) (by kernel_rfl) ?_
                show AWp _ _ _ _
                refine awp_ret ?_
                cases h
                exact And.intro (aresN rfl (L2.cons (rtmp rfl (eV rfl)) (L2.cons (rtmp rfl (eV rfl)) L2.nil)) rfl) (And.intro rfl rfl)
      · rintro s ⟨y7, rfl, h⟩
        unfold M_edit_Move_k2 at h
        refine awp_seq ?_
        refine awp_region ?_
        refine arun_do rfl rfl rfl (ex_move (eV (v := (SL 5 c_api_Node t0)) rfl)) ?_
        obtain ⟨x18, hx18, h⟩ := bindS h
        refine arun_do rfl rfl rfl (ex_callOw (vs := [(SL 5 c_api_Node t0)]) (k := 0) (len := x18.length) (b := ⟨5, ((x18).flatMap c_api_Node), true⟩) (H' := ⟨1, [(0, ⟨5, ((x18).flatMap c_api_Node), true⟩)]⟩) rfl en_22 (cargs (evs rfl evs_nil)) rfl (okw_slices_Clone_api_Set_api_Node t0 x18 hx18) rfl rfl) ?_
        refine arun_do rfl rfl rfl (ex_move (eV (v := (I y7)) rfl)) ?_
        refine arun_do rfl rfl rfl (ex_assign (eV (v := (GV 0 x18.length)) rfl)) ?_
        refine arun_do rfl rfl rfl (ex_assign (eV (v := (I y7)) rfl)) ?_
        refine arun_keepE [6, 7] 0 1 (st' := ⟨75, 0, [(6, (GV 0 x18.length)), (7, (I y7))], [], ⟨1, [(0, ⟨5, ((x18).flatMap c_api_Node), true⟩)]⟩⟩) (by kernel_rfl) (by kernel_rfl) ?_
        show AWp _ _ _ _
        refine awp_ret ?_
        cases h
        exact And.intro (aresN rfl (L2.cons (rtmp rfl (eV rfl)) (L2.cons (rtmp rfl (eV rfl)) L2.nil)) rfl) (And.intro rfl rfl)

end Go.Proofs
