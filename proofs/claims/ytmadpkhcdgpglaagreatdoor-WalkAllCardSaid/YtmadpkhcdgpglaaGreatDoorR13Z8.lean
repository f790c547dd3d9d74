/- Pure models of functions of the program, and that its code does what they say: slices Index[[]int,int], slices Contains[[]int,int], walk Within, palimplaw13 begun, palimpmade Made. Written by a program. -/
import Derived.Test.YtmadpkhcdgpglaaGreatDoorR13Z0
import Derived.Test.YtmadpkhcdgpglaaGreatDoorR13Z2
import Derived.Test.YtmadpkhcdgpglaaGreatDoorR13Z3
import Derived.Test.YtmadpkhcdgpglaaGreatDoorR13Z6
import Derived.Test.YtmadpkhcdgpglaaGreatDoorR13Z7
import Derived.Test.YtmadpkhcdgpglaaGreatDoorR13ZB
set_option maxRecDepth 20000
set_option maxHeartbeats 4000000
namespace Go.Proofs
open Go Go.Fhl
set_option linter.unusedVariables false
set_option linter.unusedSimpArgs false
noncomputable def M_slices_Index_int_int_l1 (t0 : (List Int)) (t1 : Int) : Nat → Int → Option Int
  | 0, _ => none
  | n1 + 1, v1 =>
  cond (decide (v1 < (t0.length : Int))) (Option.bind (getI t0 v1) fun (x3 : Int) => cond (t1 == x3) (some v1) ((M_slices_Index_int_int_l1 t0 t1 n1) (w64 (v1 + 1)))) (some (-1))
noncomputable def M_slices_Index_int_int (t0 : (List Int)) (t1 : Int) : Option Int :=
  M_slices_Index_int_int_l1 t0 t1 fuel 0
theorem ok_slices_Index_int_int (t0 : (List Int)) (t1 : Int) (r : Int) (h : M_slices_Index_int_int t0 t1 = some r) : FFn Tryz.prog 45 [(SL 1 cI t0), (I t1)] (I r) := by
  refine FFn.of_body (n := 19) Tryz.func45 rfl Tryz.ntmps45 rfl rfl rfl rfl ?_
  show AWp _ _ _ ⟨19, 0, [(0, (SL 1 cI t0)), (1, (I t1))], [], ⟨0, []⟩⟩
  unfold M_slices_Index_int_int at h
  refine awp_seq ?_
  refine awp_region ?_
  refine arun_do rfl rfl rfl (ex_assign (eV (v := (I 0)) rfl)) ?_
  refine arun_keepE [0, 1] 0 0 (st' := ⟨19, 0, [(0, (SL 1 cI t0)), (1, (I t1))], [], ⟨0, []⟩⟩) (by kernel_rfl) (by kernel_rfl) ?_
  show AWp _ _ _ _
  refine awp_seq ?_
  refine awp_seq ?_
  refine awp_region ?_
  refine arun_do rfl rfl rfl (ex_move (eV (v := (SL 1 cI t0)) rfl)) ?_
  refine arun_do rfl rfl rfl (tx_lenD (xs := t0) ceI Tryz.underlying57 rfl) ?_
  refine arun_do rfl rfl rfl (ex_move (eV (v := (I 0)) rfl)) ?_
  refine arun_keepE [0, 1, 7, 8] 0 0 (st' := ⟨19, 0, [(0, (SL 1 cI t0)), (1, (I t1)), (7, (I (t0.length : Int))), (8, (I 0))], [], ⟨0, []⟩⟩) (by kernel_rfl) (by kernel_rfl) ?_
  show AWp _ _ _ _
  refine awp_block ?_
  refine awp_loop (fun n s => ∃ (v1 : Int), s = ⟨19, 0, [(0, (SL 1 cI t0)), (1, (I t1)), (7, (I (t0.length : Int))), (8, (I v1))], [], ⟨0, []⟩⟩ ∧ M_slices_Index_int_int_l1 t0 t1 n v1 = some r) fuel (Exists.intro 0 (And.intro rfl h)) ?_
  rintro n s ⟨v1, rfl, h⟩ -
  cases n with
  | zero => cases h
  | succ n1 =>
    unfold M_slices_Index_int_int_l1 at h
    refine awp_seq ?_
    refine awp_region ?_
    refine arun_do rfl rfl rfl (ex_bin (vx := (I v1)) (vy := (I (t0.length : Int))) rfl rfl lssI_ok) ?_
    refine arun_keepE [0, 1, 7, 8, 9] 0 0 (st' := ⟨19, 0, [(0, (SL 1 cI t0)), (1, (I t1)), (7, (I (t0.length : Int))), (8, (I v1)), (9, (Bo (decide (v1 < (t0.length : Int)))))], [], ⟨0, []⟩⟩) (by kernel_rfl) (by kernel_rfl) ?_
    show AWp _ _ _ _
    refine awp_seq ?_
    rcases Bool.eq_false_or_eq_true (decide (v1 < (t0.length : Int))) with hb2 | hb2
    · rw [condT hb2] at h
      refine awp_condT (boT hb2) ?_
      refine awp_skip ?_
      show AWp _ _ _ _
      refine awp_seq ?_
      refine awp_block ?_
      refine awp_seq ?_
      refine awp_region ?_
      refine arun_do rfl rfl rfl (ex_move (eV (v := (I v1)) rfl)) ?_
      refine arun_do rfl rfl rfl (ex_assign (eV (v := (I v1)) rfl)) ?_
      refine arun_keepE [0, 1, 5, 7, 8] 0 0 (st' := ⟨19, 0, [(0, (SL 1 cI t0)), (1, (I t1)), (5, (I v1)), (7, (I (t0.length : Int))), (8, (I v1))], [], ⟨0, []⟩⟩) (by kernel_rfl) (by kernel_rfl) ?_
      show AWp _ _ _ _
      refine awp_seq ?_
      refine awp_region ?_
      refine arun_do rfl rfl rfl (ex_move (eV (v := (I t1)) rfl)) ?_
      refine arun_do rfl rfl rfl (ex_move (eV (v := (SL 1 cI t0)) rfl)) ?_
      refine arun_do rfl rfl rfl (ex_move (eV (v := (I v1)) rfl)) ?_
      obtain ⟨x3, hx3, h⟩ := bindS h
      refine arun_do rfl rfl rfl (tx_idxD (c := cI) (xs := t0) (i := v1) ceI Tryz.underlying57 s_3 rfl rfl hx3) ?_
      refine arun_do rfl rfl rfl (tx_ldD1 (v := (I x3)) Tryz.underlying3 rfl rfl rfl) ?_
      refine arun_do rfl rfl rfl (ex_bin (vx := (I t1)) (vy := (I x3)) rfl rfl eqlI_ok) ?_
      refine arun_keepE [0, 1, 5, 7, 8, 16] 0 0 (st' := ⟨19, 0, [(0, (SL 1 cI t0)), (1, (I t1)), (5, (I v1)), (7, (I (t0.length : Int))), (8, (I v1)), (16, (Bo (t1 == x3)))], [], ⟨0, []⟩⟩) (by kernel_rfl) (by kernel_rfl) ?_
      show AWp _ _ _ _
      rcases Bool.eq_false_or_eq_true (t1 == x3) with hb4 | hb4
      · rw [condT hb4] at h
        refine awp_condT (boT hb4) ?_
        refine awp_seq ?_
        refine awp_region ?_
        refine arun_do rfl rfl rfl (ex_move (eV (v := (I v1)) rfl)) ?_
        refine arun_do rfl rfl rfl (ex_assign (eV (v := (I v1)) rfl)) ?_
        refine arun_keepE [4] 0 0 (st' := ⟨19, 0, [(4, (I v1))], [], ⟨0, []⟩⟩) (by kernel_rfl) (by kernel_rfl) ?_
        show AWp _ _ _ _
        refine awp_ret ?_
        cases h
        exact ares1 (rtmp rfl (eV rfl))
      · rw [condF hb4] at h
        refine awp_condF (boF hb4) ?_
        refine awp_skip ?_
        show AWp _ _ _ _
        refine awp_region ?_
        refine arun_do rfl rfl rfl (ex_bin (vx := (I v1)) (vy := (I 1)) rfl rfl addI_ok) ?_
        refine arun_do rfl rfl rfl (ex_move (eV (v := (I (w64 (v1 + 1)))) rfl)) ?_
        refine arun_keepE [0, 1, 7, 8] 0 0 (st' := ⟨19, 0, [(0, (SL 1 cI t0)), (1, (I t1)), (7, (I (t0.length : Int))), (8, (I (w64 (v1 + 1))))], [], ⟨0, []⟩⟩) (by kernel_rfl) (by kernel_rfl) ?_
        exact Exists.intro n1 (And.intro (Nat.lt_succ_self _) (Exists.intro (w64 (v1 + 1)) (And.intro rfl h)))
    · rw [condF hb2] at h
      refine awp_condF (boF hb2) ?_
      refine awp_exit ?_
      show AWp _ _ _ _
      refine awp_seq ?_
      refine awp_region ?_
      refine arun_do rfl rfl rfl (ex_assign (eV (v := (I (-1))) rfl)) ?_
      refine arun_keepE [4] 0 0 (st' := ⟨19, 0, [(4, (I (-1)))], [], ⟨0, []⟩⟩) (by kernel_rfl) (by kernel_rfl) ?_
      show AWp _ _ _ _
      refine awp_ret ?_
      cases h
      exact ares1 (rtmp rfl (eV rfl))

noncomputable def M_slices_Contains_int_int (t0 : (List Int)) (t1 : Int) : Option Bool :=
  Option.bind (M_slices_Index_int_int t0 t1) fun (x1 : Int) => some (decide (x1 ≥ 0))
theorem ok_slices_Contains_int_int (t0 : (List Int)) (t1 : Int) (r : Bool) (h : M_slices_Contains_int_int t0 t1 = some r) : FFn Tryz.prog 31 [(SL 1 cI t0), (I t1)] (Bo r) := by
  refine FFn.of_body (n := 9) Tryz.func31 rfl Tryz.ntmps31 rfl rfl rfl rfl ?_
  show AWp _ _ _ ⟨9, 0, [(0, (SL 1 cI t0)), (1, (I t1))], [], ⟨0, []⟩⟩
  unfold M_slices_Contains_int_int at h
  refine awp_seq ?_
  refine awp_region ?_
  refine arun_do rfl rfl rfl (ex_assign (eV (v := (Bo false)) rfl)) ?_
  refine arun_keepE [0, 1] 0 0 (st' := ⟨9, 0, [(0, (SL 1 cI t0)), (1, (I t1))], [], ⟨0, []⟩⟩) (by kernel_rfl) (by kernel_rfl) ?_
  show AWp _ _ _ _
  refine awp_seq ?_
  refine awp_region ?_
  refine arun_do rfl rfl rfl (ex_move (eV (v := (SL 1 cI t0)) rfl)) ?_
  refine arun_do rfl rfl rfl (ex_move (eV (v := (I t1)) rfl)) ?_
  obtain ⟨x1, hx1, h⟩ := bindS h
  refine arun_do rfl rfl rfl (ex_call0 (vs := [(SL 1 cI t0), (I t1)]) (v := (I x1)) rfl en_45 (cargs (evs rfl (evs rfl evs_nil))) rfl (ok_slices_Index_int_int t0 t1 x1 hx1) rfl) ?_
  refine arun_do rfl rfl rfl (ex_bin (vx := (I x1)) (vy := (I 0)) rfl rfl geqI_ok) ?_
  refine arun_do rfl rfl rfl (ex_assign (eV (v := (Bo (decide (x1 ≥ 0)))) rfl)) ?_
  refine arun_keepE [4] 0 0 (st' := ⟨9, 0, [(4, (Bo (decide (x1 ≥ 0))))], [], ⟨0, []⟩⟩) (by kernel_rfl) (by kernel_rfl) ?_
  show AWp _ _ _ _
  refine awp_ret ?_
  cases h
  exact ares1 (rtmp rfl (eV rfl))

noncomputable def M_walk_Within (t0 : (List G_api_Node)) (t1 : Int) (t2 : Int) : Option Bool :=
  Option.bind (M_walk_files_at (G_walk_files.mk t0) t1) fun (x1 : G_api_Node) => Option.bind (gd ((x1.Kind != 0) == true) (M_walk_files_at (G_walk_files.mk t0) t2)) fun (x2 : G_api_Node) => Option.bind (gd (((x1.Kind != 0) && (x2.Kind != 0)) == true) (M_walk_files_up (G_walk_files.mk t0) t1)) fun (x3 : (List Int)) => Option.bind (gd (((x1.Kind != 0) && (x2.Kind != 0)) == true) (M_slices_Contains_int_int x3 t2)) fun (x4 : Bool) => some (((x1.Kind != 0) && (x2.Kind != 0)) && x4)
theorem ok_walk_Within (t0 : (List G_api_Node)) (t1 : Int) (t2 : Int) (r : Bool) (h : M_walk_Within t0 t1 t2 = some r) : FFn Tryz.prog 15 [(SL 5 c_api_Node t0), (I t1), (I t2)] (Bo r) := by
  refine FFn.of_body (n := 29) Tryz.func15 rfl Tryz.ntmps15 rfl rfl rfl rfl ?_
  show AWp _ _ _ ⟨29, 0, [(0, (SL 5 c_api_Node t0)), (1, (I t1)), (2, (I t2))], [], ⟨0, []⟩⟩
  unfold M_walk_Within at h
  refine awp_seq ?_
  refine awp_region ?_
  refine arun_do rfl rfl rfl (ex_assign (eV (v := (Bo false)) rfl)) ?_
  refine arun_keepE [0, 1, 2] 0 0 (st' := ⟨29, 0, [(0, (SL 5 c_api_Node t0)), (1, (I t1)), (2, (I t2))], [], ⟨0, []⟩⟩) (by kernel_rfl) (by kernel_rfl) ?_
  show AWp _ _ _ _
  refine awp_seq ?_
  refine awp_region ?_
  refine arun_do rfl rfl rfl (ex_move (eV (v := (SL 5 c_api_Node t0)) rfl)) ?_
  refine arun_do rfl rfl rfl (ex_build (qs := [(0, (SL 5 c_api_Node t0))]) (v := (Value.agg (c_walk_files (G_walk_files.mk t0)).toArray)) (evp rfl evp_nil) (by kernel_rfl)) ?_
  refine arun_do rfl rfl rfl (ex_allocW (k := 0) (zs := (c_walk_files (G_walk_files.mk []))) (L' := [(c_walk_files (G_walk_files.mk []))]) z_53 rfl (by repeat (first | exact trivial | refine ⟨.inl rfl, ?_⟩ | refine ⟨.inr ⟨rfl, _, rfl⟩, ?_⟩)) rfl rfl) ?_
  refine arun_do0 rfl rfl (ex_storeL (vy := (Value.agg (c_walk_files (G_walk_files.mk t0)).toArray)) (cs := (c_walk_files (G_walk_files.mk []))) (vs := (c_walk_files (G_walk_files.mk t0))) (L' := [(c_walk_files (G_walk_files.mk t0))]) rfl (eV (v := (Value.agg (c_walk_files (G_walk_files.mk t0)).toArray)) rfl) rfl s_53 rfl (Nat.le_of_ble_eq_true rfl) (by kernel_rfl)) ?_
  refine arun_keepE [1, 2, 7] 1 0 (st' := ⟨29, 0, [(1, (I t1)), (2, (I t2)), (7, (LP 0 0))], [(c_walk_files (G_walk_files.mk t0))], ⟨0, []⟩⟩) (by kernel_rfl) (by kernel_rfl) ?_
  show AWp _ _ _ _
  refine awp_seq ?_
  refine awp_region ?_
  refine arun_do rfl rfl rfl (tx_ldLA (vs := (c_walk_files (G_walk_files.mk t0))) Tryz.underlying53 rfl s_53 (by decide) rfl rfl rfl rfl) ?_
  refine arun_do rfl rfl rfl (ex_move (eV (v := (I t1)) rfl)) ?_
  obtain ⟨x1, hx1, h⟩ := bindS h
  refine arun_do rfl rfl rfl (ex_call0 (vs := [(Value.agg (c_walk_files (G_walk_files.mk t0)).toArray), (I t1)]) (v := (Value.agg (c_api_Node x1).toArray)) rfl en_25 (cargs (evs rfl (evs rfl evs_nil))) rfl (ok_walk_files_at (G_walk_files.mk t0) t1 x1 hx1) rfl) ?_
  refine arun_do rfl rfl rfl (ex_field (vx := (Value.agg (c_api_Node x1).toArray)) (v := (I x1.Kind)) rfl (by kernel_rfl)) ?_
  refine arun_do rfl rfl rfl (ex_bin (vx := (I x1.Kind)) (vy := (I 0)) rfl rfl neqI_ok) ?_
  refine arun_do rfl rfl rfl (ex_move (eV (v := (Bo (x1.Kind != 0))) rfl)) ?_
  refine arun_guard (v := (Value.agg (c_walk_files (G_walk_files.mk t0)).toArray)) ((x1.Kind != 0) == true) rfl rfl rfl (fun hc => tx_ldLA (vs := (c_walk_files (G_walk_files.mk t0))) Tryz.underlying53 rfl s_53 (by decide) rfl rfl rfl rfl) ?_
  refine arun_guard (v := (I t2)) ((x1.Kind != 0) == true) rfl rfl rfl (fun hc => ex_move (eV (v := (I t2)) rfl)) ?_
  obtain ⟨x2, hx2, h⟩ := bindS h
  refine arun_guard (v := (Value.agg (c_api_Node x2).toArray)) ((x1.Kind != 0) == true) rfl rfl rfl (fun hc => ex_call0 (vs := [(Value.agg (c_walk_files (G_walk_files.mk t0)).toArray), (I t2)]) (v := (Value.agg (c_api_Node x2).toArray)) rfl en_25 (cargs (evs (cond_of hc) (evs (cond_of hc) evs_nil))) rfl (ok_walk_files_at (G_walk_files.mk t0) t2 x2 (gd_of hc hx2)) rfl) ?_
  refine arun_guard (v := (I x2.Kind)) ((x1.Kind != 0) == true) rfl rfl rfl (fun hc => ex_field (vx := (Value.agg (c_api_Node x2).toArray)) (v := (I x2.Kind)) (cond_of hc) (by kernel_rfl)) ?_
  refine arun_guard (v := (Bo (x2.Kind != 0))) ((x1.Kind != 0) == true) rfl rfl rfl (fun hc => ex_bin (vx := (I x2.Kind)) (vy := (I 0)) (cond_of hc) rfl neqI_ok) ?_
  refine arun_do rfl rfl rfl (ex_pick rfl pkAnd) ?_
  refine arun_do rfl rfl rfl (ex_move (eV (v := (Bo ((x1.Kind != 0) && (x2.Kind != 0)))) rfl)) ?_
  refine arun_guard (v := (Value.agg (c_walk_files (G_walk_files.mk t0)).toArray)) (((x1.Kind != 0) && (x2.Kind != 0)) == true) rfl rfl rfl (fun hc => tx_ldLA (vs := (c_walk_files (G_walk_files.mk t0))) Tryz.underlying53 rfl s_53 (by decide) rfl rfl rfl rfl) ?_
  refine arun_guard (v := (I t1)) (((x1.Kind != 0) && (x2.Kind != 0)) == true) rfl rfl rfl (fun hc => ex_move (eV (v := (I t1)) rfl)) ?_
  obtain ⟨x3, hx3, h⟩ := bindS h
  refine arun_guard (v := (SL 1 cI x3)) (((x1.Kind != 0) && (x2.Kind != 0)) == true) rfl rfl rfl (fun hc => ex_call0 (vs := [(Value.agg (c_walk_files (G_walk_files.mk t0)).toArray), (I t1)]) (v := (SL 1 cI x3)) rfl en_26 (cargs (evs (cond_of hc) (evs (cond_of hc) evs_nil))) rfl (ok_walk_files_up (G_walk_files.mk t0) t1 x3 (gd_of hc hx3)) rfl) ?_
  refine arun_guard (v := (I t2)) (((x1.Kind != 0) && (x2.Kind != 0)) == true) rfl rfl rfl (fun hc => ex_move (eV (v := (I t2)) rfl)) ?_
  obtain ⟨x4, hx4, h⟩ := bindS h
  refine arun_guard (v := (Bo x4)) (((x1.Kind != 0) && (x2.Kind != 0)) == true) rfl rfl rfl (fun hc => ex_call0 (vs := [(SL 1 cI x3), (I t2)]) (v := (Bo x4)) rfl en_31 (cargs (evs (cond_of hc) (evs (cond_of hc) evs_nil))) rfl (ok_slices_Contains_int_int x3 t2 x4 (gd_of hc hx4)) rfl) ?_
  refine arun_do rfl rfl rfl (ex_pick rfl pkAnd) ?_
  refine arun_do rfl rfl rfl (ex_assign (eV (v := (Bo (((x1.Kind != 0) && (x2.Kind != 0)) && x4))) rfl)) ?_
  refine arun_keepE [6] 0 0 (st' := ⟨29, 0, [(6, (Bo (((x1.Kind != 0) && (x2.Kind != 0)) && x4)))], [], ⟨0, []⟩⟩) (by kernel_rfl) (by kernel_rfl) ?_
  show AWp _ _ _ _
  refine awp_ret ?_
  cases h
  exact ares1 (rtmp rfl (eV rfl))

noncomputable def M_law13_begun : Option Bool :=
  Option.bind (M_ref11_New) fun (x1 : (List G_api_Node)) => Option.bind (M_ref11_Make x1 ([97] : Str) 2) fun (x2 : ((List G_api_Node) × Int)) => Option.bind (M_ref11_Make x2.1 ([97, 47, 98] : Str) 1) fun (x3 : ((List G_api_Node) × Int)) => Option.bind (M_walk_Find x3.1 ([97, 47, 98] : Str)) fun (x4 : (Int × Int)) => Option.bind (M_walk_Find x3.1 ([99] : Str)) fun (x5 : (Int × Int)) => Option.bind (M_walk_Place x3.1 ([97, 47, 120] : Str)) fun (x6 : (Int × Str × Int)) => Option.bind (M_walk_Way x3.1 2) fun (x7 : (Str × Bool)) => Option.bind (gd (((((((((x4.1 == 2) && (x4.2 == 0)) && (x5.2 == 2)) && (x6.1 == 1)) && (x6.2.1 == ([120] : Str))) && (x6.2.2 == 0)) && x7.2) && (x7.1 == ([97, 47, 98] : Str))) == true) (M_walk_Within x3.1 2 1)) fun (x8 : Bool) => Option.bind (gd ((((((((((x4.1 == 2) && (x4.2 == 0)) && (x5.2 == 2)) && (x6.1 == 1)) && (x6.2.1 == ([120] : Str))) && (x6.2.2 == 0)) && x7.2) && (x7.1 == ([97, 47, 98] : Str))) && x8) == true) (M_walk_Within x3.1 1 2)) fun (x9 : Bool) => some ((((((((((x4.1 == 2) && (x4.2 == 0)) && (x5.2 == 2)) && (x6.1 == 1)) && (x6.2.1 == ([120] : Str))) && (x6.2.2 == 0)) && x7.2) && (x7.1 == ([97, 47, 98] : Str))) && x8) && (!x9))
theorem ok_law13_begun (r : Bool) (h : M_law13_begun = some r) : FFn Tryz.prog 4 [] (Bo r) := by
  refine FFn.of_body (n := 81) Tryz.func4 rfl Tryz.ntmps4 rfl rfl rfl rfl ?_
  show AWp _ _ _ ⟨81, 0, [], [], ⟨0, []⟩⟩
  unfold M_law13_begun at h
  refine awp_seq ?_
  refine awp_region ?_
  refine arun_do rfl rfl rfl (ex_assign (eV (v := (Bo false)) rfl)) ?_
  refine arun_keepE [] 0 0 (st' := ⟨81, 0, [], [], ⟨0, []⟩⟩) (by kernel_rfl) (by kernel_rfl) ?_
  show AWp _ _ _ _
  refine awp_seq ?_
  refine awp_region ?_
  obtain ⟨x1, hx1, h⟩ := bindS h
  refine arun_do rfl rfl rfl (ex_call0 (vs := []) (v := (SL 5 c_api_Node x1)) rfl en_18 (cargs evs_nil) rfl (ok_ref11_New  x1 hx1) rfl) ?_
  obtain ⟨x2, hx2, h⟩ := bindS h
  refine arun_do rfl rfl rfl (ex_call0 (vs := [(SL 5 c_api_Node x1), (S ([97] : Str)), (I 2)]) (v := (Value.tuple #[(SL 5 c_api_Node x2.1), (I x2.2)])) rfl en_17 (cargs (evs rfl (evs rfl (evs rfl evs_nil)))) rfl (ok_ref11_Make x1 ([97] : Str) 2 x2 hx2) rfl) ?_
  refine arun_do rfl rfl rfl (ex_move (eV (v := (Value.tuple #[(SL 5 c_api_Node x2.1), (I x2.2)])) rfl)) ?_
  refine arun_do rfl rfl rfl (ex_extract (vx := (Value.tuple #[(SL 5 c_api_Node x2.1), (I x2.2)])) (v := (SL 5 c_api_Node x2.1)) rfl rfl) ?_
  refine arun_do rfl rfl rfl (ex_extract (vx := (Value.tuple #[(SL 5 c_api_Node x2.1), (I x2.2)])) (v := (I x2.2)) rfl rfl) ?_
  refine arun_do rfl rfl rfl (ex_assign (eV (v := (SL 5 c_api_Node x2.1)) rfl)) ?_
  refine arun_do rfl rfl rfl (ex_assign (eV (v := (I x2.2)) rfl)) ?_
  refine arun_keepE [1] 0 0 (st' := ⟨81, 0, [(1, (SL 5 c_api_Node x2.1))], [], ⟨0, []⟩⟩) (by kernel_rfl) (by kernel_rfl) ?_
  show AWp _ _ _ _
  refine awp_seq ?_
  refine awp_region ?_
  refine arun_do rfl rfl rfl (ex_move (eV (v := (SL 5 c_api_Node x2.1)) rfl)) ?_
  obtain ⟨x3, hx3, h⟩ := bindS h
  refine arun_do rfl rfl rfl (ex_call0 (vs := [(SL 5 c_api_Node x2.1), (S ([97, 47, 98] : Str)), (I 1)]) (v := (Value.tuple #[(SL 5 c_api_Node x3.1), (I x3.2)])) rfl en_17 (cargs (evs rfl (evs rfl (evs rfl evs_nil)))) rfl (ok_ref11_Make x2.1 ([97, 47, 98] : Str) 1 x3 hx3) rfl) ?_
  refine arun_do rfl rfl rfl (ex_move (eV (v := (Value.tuple #[(SL 5 c_api_Node x3.1), (I x3.2)])) rfl)) ?_
  refine arun_do rfl rfl rfl (ex_extract (vx := (Value.tuple #[(SL 5 c_api_Node x3.1), (I x3.2)])) (v := (SL 5 c_api_Node x3.1)) rfl rfl) ?_
  refine arun_do rfl rfl rfl (ex_extract (vx := (Value.tuple #[(SL 5 c_api_Node x3.1), (I x3.2)])) (v := (I x3.2)) rfl rfl) ?_
  refine arun_do rfl rfl rfl (ex_assign (eV (v := (SL 5 c_api_Node x3.1)) rfl)) ?_
  refine arun_keepE [1] 0 0 (st' := ⟨81, 0, [(1, (SL 5 c_api_Node x3.1))], [], ⟨0, []⟩⟩) (by kernel_rfl) (by kernel_rfl) ?_
  show AWp _ _ _ _
  refine awp_seq ?_
  refine awp_region ?_
  refine arun_do rfl rfl rfl (ex_move (eV (v := (SL 5 c_api_Node x3.1)) rfl)) ?_
  obtain ⟨x4, hx4, h⟩ := bindS h
  refine arun_do rfl rfl rfl (ex_call0 (vs := [(SL 5 c_api_Node x3.1), (S ([97, 47, 98] : Str))]) (v := (Value.tuple #[(I x4.1), (I x4.2)])) rfl en_9 (cargs (evs rfl (evs rfl evs_nil))) rfl (ok_walk_Find x3.1 ([97, 47, 98] : Str) x4 hx4) rfl) ?_
  refine arun_do rfl rfl rfl (ex_move (eV (v := (Value.tuple #[(I x4.1), (I x4.2)])) rfl)) ?_
  refine arun_do rfl rfl rfl (ex_extract (vx := (Value.tuple #[(I x4.1), (I x4.2)])) (v := (I x4.1)) rfl rfl) ?_
  refine arun_do rfl rfl rfl (ex_extract (vx := (Value.tuple #[(I x4.1), (I x4.2)])) (v := (I x4.2)) rfl rfl) ?_
  refine arun_do rfl rfl rfl (ex_assign (eV (v := (I x4.1)) rfl)) ?_
  refine arun_do rfl rfl rfl (ex_assign (eV (v := (I x4.2)) rfl)) ?_
  refine arun_keepE [1, 3, 4] 0 0 (st' := ⟨81, 0, [(1, (SL 5 c_api_Node x3.1)), (3, (I x4.1)), (4, (I x4.2))], [], ⟨0, []⟩⟩) (by kernel_rfl) (by kernel_rfl) ?_
  show AWp _ _ _ _
  refine awp_seq ?_
  refine awp_region ?_
  refine arun_do rfl rfl rfl (ex_move (eV (v := (SL 5 c_api_Node x3.1)) rfl)) ?_
  obtain ⟨x5, hx5, h⟩ := bindS h
  refine arun_do rfl rfl rfl (ex_call0 (vs := [(SL 5 c_api_Node x3.1), (S ([99] : Str))]) (v := (Value.tuple #[(I x5.1), (I x5.2)])) rfl en_9 (cargs (evs rfl (evs rfl evs_nil))) rfl (ok_walk_Find x3.1 ([99] : Str) x5 hx5) rfl) ?_
  refine arun_do rfl rfl rfl (ex_move (eV (v := (Value.tuple #[(I x5.1), (I x5.2)])) rfl)) ?_
  refine arun_do rfl rfl rfl (ex_extract (vx := (Value.tuple #[(I x5.1), (I x5.2)])) (v := (I x5.1)) rfl rfl) ?_
  refine arun_do rfl rfl rfl (ex_extract (vx := (Value.tuple #[(I x5.1), (I x5.2)])) (v := (I x5.2)) rfl rfl) ?_
  refine arun_do rfl rfl rfl (ex_assign (eV (v := (I x5.1)) rfl)) ?_
  refine arun_do rfl rfl rfl (ex_assign (eV (v := (I x5.2)) rfl)) ?_
  refine arun_keepE [1, 3, 4, 6] 0 0 (st' := ⟨81, 0, [(1, (SL 5 c_api_Node x3.1)), (3, (I x4.1)), (4, (I x4.2)), (6, (I x5.2))], [], ⟨0, []⟩⟩) (by kernel_rfl) (by kernel_rfl) ?_
  show AWp _ _ _ _
  refine awp_seq ?_
  refine awp_region ?_
  refine arun_do rfl rfl rfl (ex_move (eV (v := (SL 5 c_api_Node x3.1)) rfl)) ?_
  obtain ⟨x6, hx6, h⟩ := bindS h
  refine arun_do rfl rfl rfl (ex_call0 (vs := [(SL 5 c_api_Node x3.1), (S ([97, 47, 120] : Str))]) (v := (Value.tuple #[(I x6.1), (S x6.2.1), (I x6.2.2)])) rfl en_11 (cargs (evs rfl (evs rfl evs_nil))) rfl (ok_walk_Place x3.1 ([97, 47, 120] : Str) x6 hx6) rfl) ?_
  refine arun_do rfl rfl rfl (ex_move (eV (v := (Value.tuple #[(I x6.1), (S x6.2.1), (I x6.2.2)])) rfl)) ?_
  refine arun_do rfl rfl rfl (ex_extract (vx := (Value.tuple #[(I x6.1), (S x6.2.1), (I x6.2.2)])) (v := (I x6.1)) rfl rfl) ?_
  refine arun_do rfl rfl rfl (ex_extract (vx := (Value.tuple #[(I x6.1), (S x6.2.1), (I x6.2.2)])) (v := (S x6.2.1)) rfl rfl) ?_
  refine arun_do rfl rfl rfl (ex_extract (vx := (Value.tuple #[(I x6.1), (S x6.2.1), (I x6.2.2)])) (v := (I x6.2.2)) rfl rfl) ?_
  refine arun_do rfl rfl rfl (ex_assign (eV (v := (I x6.1)) rfl)) ?_
  refine arun_do rfl rfl rfl (ex_assign (eV (v := (S x6.2.1)) rfl)) ?_
  refine arun_do rfl rfl rfl (ex_assign (eV (v := (I x6.2.2)) rfl)) ?_
  refine arun_keepE [1, 3, 4, 6, 7, 8, 9] 0 0 (st' := ⟨81, 0, [(1, (SL 5 c_api_Node x3.1)), (3, (I x4.1)), (4, (I x4.2)), (6, (I x5.2)), (7, (I x6.1)), (8, (S x6.2.1)), (9, (I x6.2.2))], [], ⟨0, []⟩⟩) (by kernel_rfl) (by kernel_rfl) ?_
  show AWp _ _ _ _
  refine awp_seq ?_
  refine awp_region ?_
  refine arun_do rfl rfl rfl (ex_move (eV (v := (SL 5 c_api_Node x3.1)) rfl)) ?_
  obtain ⟨x7, hx7, h⟩ := bindS h
  refine arun_do rfl rfl rfl (ex_call0 (vs := [(SL 5 c_api_Node x3.1), (I 2)]) (v := (Value.tuple #[(S x7.1), (Bo x7.2)])) rfl en_13 (cargs (evs rfl (evs rfl evs_nil))) rfl (ok_walk_Way x3.1 2 x7 hx7) rfl) ?_
  refine arun_do rfl rfl rfl (ex_move (eV (v := (Value.tuple #[(S x7.1), (Bo x7.2)])) rfl)) ?_
  refine arun_do rfl rfl rfl (ex_extract (vx := (Value.tuple #[(S x7.1), (Bo x7.2)])) (v := (S x7.1)) rfl rfl) ?_
  refine arun_do rfl rfl rfl (ex_extract (vx := (Value.tuple #[(S x7.1), (Bo x7.2)])) (v := (Bo x7.2)) rfl rfl) ?_
  refine arun_do rfl rfl rfl (ex_assign (eV (v := (S x7.1)) rfl)) ?_
  refine arun_do rfl rfl rfl (ex_assign (eV (v := (Bo x7.2)) rfl)) ?_
  refine arun_keepE [1, 3, 4, 6, 7, 8, 9, 10, 11] 0 0 (st' := ⟨81, 0, [(1, (SL 5 c_api_Node x3.1)), (3, (I x4.1)), (4, (I x4.2)), (6, (I x5.2)), (7, (I x6.1)), (8, (S x6.2.1)), (9, (I x6.2.2)), (10, (S x7.1)), (11, (Bo x7.2))], [], ⟨0, []⟩⟩) (by kernel_rfl) (by kernel_rfl) ?_
  show AWp _ _ _ _
  refine awp_seq ?_
  refine awp_region ?_
  refine arun_do rfl rfl rfl (ex_move (eV (v := (I x4.1)) rfl)) ?_
  refine arun_do rfl rfl rfl (ex_bin (vx := (I x4.1)) (vy := (I 2)) rfl rfl eqlI_ok) ?_
  refine arun_do rfl rfl rfl (ex_move (eV (v := (Bo (x4.1 == 2))) rfl)) ?_
  refine arun_guard (v := (I x4.2)) ((x4.1 == 2) == true) rfl rfl rfl (fun hc => ex_move (eV (v := (I x4.2)) rfl)) ?_
  refine arun_guard (v := (Bo (x4.2 == 0))) ((x4.1 == 2) == true) rfl rfl rfl (fun hc => ex_bin (vx := (I x4.2)) (vy := (I 0)) (cond_of hc) rfl eqlI_ok) ?_
  refine arun_do rfl rfl rfl (ex_pick rfl pkAnd) ?_
  refine arun_do rfl rfl rfl (ex_move (eV (v := (Bo ((x4.1 == 2) && (x4.2 == 0)))) rfl)) ?_
  refine arun_guard (v := (I x5.2)) (((x4.1 == 2) && (x4.2 == 0)) == true) rfl rfl rfl (fun hc => ex_move (eV (v := (I x5.2)) rfl)) ?_
  refine arun_guard (v := (Bo (x5.2 == 2))) (((x4.1 == 2) && (x4.2 == 0)) == true) rfl rfl rfl (fun hc => ex_bin (vx := (I x5.2)) (vy := (I 2)) (cond_of hc) rfl eqlI_ok) ?_
  refine arun_do rfl rfl rfl (ex_pick rfl pkAnd) ?_
  refine arun_do rfl rfl rfl (ex_move (eV (v := (Bo (((x4.1 == 2) && (x4.2 == 0)) && (x5.2 == 2)))) rfl)) ?_
  refine arun_guard (v := (I x6.1)) ((((x4.1 == 2) && (x4.2 == 0)) && (x5.2 == 2)) == true) rfl rfl rfl (fun hc => ex_move (eV (v := (I x6.1)) rfl)) ?_
  refine arun_guard (v := (Bo (x6.1 == 1))) ((((x4.1 == 2) && (x4.2 == 0)) && (x5.2 == 2)) == true) rfl rfl rfl (fun hc => ex_bin (vx := (I x6.1)) (vy := (I 1)) (cond_of hc) rfl eqlI_ok) ?_
  refine arun_do rfl rfl rfl (ex_pick rfl pkAnd) ?_
  refine arun_do rfl rfl rfl (ex_move (eV (v := (Bo ((((x4.1 == 2) && (x4.2 == 0)) && (x5.2 == 2)) && (x6.1 == 1)))) rfl)) ?_
  refine arun_guard (v := (S x6.2.1)) (((((x4.1 == 2) && (x4.2 == 0)) && (x5.2 == 2)) && (x6.1 == 1)) == true) rfl rfl rfl (fun hc => ex_move (eV (v := (S x6.2.1)) rfl)) ?_
  refine arun_guard (v := (Bo (x6.2.1 == ([120] : Str)))) (((((x4.1 == 2) && (x4.2 == 0)) && (x5.2 == 2)) && (x6.1 == 1)) == true) rfl rfl rfl (fun hc => ex_bin (vx := (S x6.2.1)) (vy := (S ([120] : Str))) (cond_of hc) rfl eqlS_ok) ?_
  refine arun_do rfl rfl rfl (ex_pick rfl pkAnd) ?_
  refine arun_do rfl rfl rfl (ex_move (eV (v := (Bo (((((x4.1 == 2) && (x4.2 == 0)) && (x5.2 == 2)) && (x6.1 == 1)) && (x6.2.1 == ([120] : Str))))) rfl)) ?_
  refine arun_guard (v := (I x6.2.2)) ((((((x4.1 == 2) && (x4.2 == 0)) && (x5.2 == 2)) && (x6.1 == 1)) && (x6.2.1 == ([120] : Str))) == true) rfl rfl rfl (fun hc => ex_move (eV (v := (I x6.2.2)) rfl)) ?_
  refine arun_guard (v := (Bo (x6.2.2 == 0))) ((((((x4.1 == 2) && (x4.2 == 0)) && (x5.2 == 2)) && (x6.1 == 1)) && (x6.2.1 == ([120] : Str))) == true) rfl rfl rfl (fun hc => ex_bin (vx := (I x6.2.2)) (vy := (I 0)) (cond_of hc) rfl eqlI_ok) ?_
  refine arun_do rfl rfl rfl (ex_pick rfl pkAnd) ?_
  refine arun_do rfl rfl rfl (ex_move (eV (v := (Bo ((((((x4.1 == 2) && (x4.2 == 0)) && (x5.2 == 2)) && (x6.1 == 1)) && (x6.2.1 == ([120] : Str))) && (x6.2.2 == 0)))) rfl)) ?_
  refine arun_guard (v := (Bo x7.2)) (((((((x4.1 == 2) && (x4.2 == 0)) && (x5.2 == 2)) && (x6.1 == 1)) && (x6.2.1 == ([120] : Str))) && (x6.2.2 == 0)) == true) rfl rfl rfl (fun hc => ex_move (eV (v := (Bo x7.2)) rfl)) ?_
  refine arun_do rfl rfl rfl (ex_pick rfl pkAnd) ?_
  refine arun_do rfl rfl rfl (ex_move (eV (v := (Bo (((((((x4.1 == 2) && (x4.2 == 0)) && (x5.2 == 2)) && (x6.1 == 1)) && (x6.2.1 == ([120] : Str))) && (x6.2.2 == 0)) && x7.2))) rfl)) ?_
  refine arun_guard (v := (S x7.1)) ((((((((x4.1 == 2) && (x4.2 == 0)) && (x5.2 == 2)) && (x6.1 == 1)) && (x6.2.1 == ([120] : Str))) && (x6.2.2 == 0)) && x7.2) == true) rfl rfl rfl (fun hc => ex_move (eV (v := (S x7.1)) rfl)) ?_
  refine arun_guard (v := (Bo (x7.1 == ([97, 47, 98] : Str)))) ((((((((x4.1 == 2) && (x4.2 == 0)) && (x5.2 == 2)) && (x6.1 == 1)) && (x6.2.1 == ([120] : Str))) && (x6.2.2 == 0)) && x7.2) == true) rfl rfl rfl (fun hc => ex_bin (vx := (S x7.1)) (vy := (S ([97, 47, 98] : Str))) (cond_of hc) rfl eqlS_ok) ?_
  refine arun_do rfl rfl rfl (ex_pick rfl pkAnd) ?_
  refine arun_do rfl rfl rfl (ex_move (eV (v := (Bo ((((((((x4.1 == 2) && (x4.2 == 0)) && (x5.2 == 2)) && (x6.1 == 1)) && (x6.2.1 == ([120] : Str))) && (x6.2.2 == 0)) && x7.2) && (x7.1 == ([97, 47, 98] : Str))))) rfl)) ?_
  refine arun_guard (v := (SL 5 c_api_Node x3.1)) (((((((((x4.1 == 2) && (x4.2 == 0)) && (x5.2 == 2)) && (x6.1 == 1)) && (x6.2.1 == ([120] : Str))) && (x6.2.2 == 0)) && x7.2) && (x7.1 == ([97, 47, 98] : Str))) == true) rfl rfl rfl (fun hc => ex_move (eV (v := (SL 5 c_api_Node x3.1)) rfl)) ?_
  obtain ⟨x8, hx8, h⟩ := bindS h
  refine arun_guard (v := (Bo x8)) (((((((((x4.1 == 2) && (x4.2 == 0)) && (x5.2 == 2)) && (x6.1 == 1)) && (x6.2.1 == ([120] : Str))) && (x6.2.2 == 0)) && x7.2) && (x7.1 == ([97, 47, 98] : Str))) == true) rfl rfl rfl (fun hc => ex_call0 (vs := [(SL 5 c_api_Node x3.1), (I 2), (I 1)]) (v := (Bo x8)) rfl en_15 (cargs (evs (cond_of hc) (evs rfl (evs rfl evs_nil)))) rfl (ok_walk_Within x3.1 2 1 x8 (gd_of hc hx8)) rfl) ?_
  refine arun_do rfl rfl rfl (ex_pick rfl pkAnd) ?_
  refine arun_do rfl rfl rfl (ex_move (eV (v := (Bo (((((((((x4.1 == 2) && (x4.2 == 0)) && (x5.2 == 2)) && (x6.1 == 1)) && (x6.2.1 == ([120] : Str))) && (x6.2.2 == 0)) && x7.2) && (x7.1 == ([97, 47, 98] : Str))) && x8))) rfl)) ?_
  refine arun_guard (v := (SL 5 c_api_Node x3.1)) ((((((((((x4.1 == 2) && (x4.2 == 0)) && (x5.2 == 2)) && (x6.1 == 1)) && (x6.2.1 == ([120] : Str))) && (x6.2.2 == 0)) && x7.2) && (x7.1 == ([97, 47, 98] : Str))) && x8) == true) rfl rfl rfl (fun hc => ex_move (eV (v := (SL 5 c_api_Node x3.1)) rfl)) ?_
  obtain ⟨x9, hx9, h⟩ := bindS h
  refine arun_guard (v := (Bo x9)) ((((((((((x4.1 == 2) && (x4.2 == 0)) && (x5.2 == 2)) && (x6.1 == 1)) && (x6.2.1 == ([120] : Str))) && (x6.2.2 == 0)) && x7.2) && (x7.1 == ([97, 47, 98] : Str))) && x8) == true) rfl rfl rfl (fun hc => ex_call0 (vs := [(SL 5 c_api_Node x3.1), (I 1), (I 2)]) (v := (Bo x9)) rfl en_15 (cargs (evs (cond_of hc) (evs rfl (evs rfl evs_nil)))) rfl (ok_walk_Within x3.1 1 2 x9 (gd_of hc hx9)) rfl) ?_
  refine arun_guard (v := (Bo (!x9))) ((((((((((x4.1 == 2) && (x4.2 == 0)) && (x5.2 == 2)) && (x6.1 == 1)) && (x6.2.1 == ([120] : Str))) && (x6.2.2 == 0)) && x7.2) && (x7.1 == ([97, 47, 98] : Str))) && x8) == true) rfl rfl rfl (fun hc => ex_un (vx := (Bo x9)) (cond_of hc) notB_ok) ?_
  refine arun_do rfl rfl rfl (ex_pick rfl pkAnd) ?_
  refine arun_do rfl rfl rfl (ex_assign (eV (v := (Bo ((((((((((x4.1 == 2) && (x4.2 == 0)) && (x5.2 == 2)) && (x6.1 == 1)) && (x6.2.1 == ([120] : Str))) && (x6.2.2 == 0)) && x7.2) && (x7.1 == ([97, 47, 98] : Str))) && x8) && (!x9)))) rfl)) ?_
  refine arun_keepE [0] 0 0 (st' := ⟨81, 0, [(0, (Bo ((((((((((x4.1 == 2) && (x4.2 == 0)) && (x5.2 == 2)) && (x6.1 == 1)) && (x6.2.1 == ([120] : Str))) && (x6.2.2 == 0)) && x7.2) && (x7.1 == ([97, 47, 98] : Str))) && x8) && (!x9))))], [], ⟨0, []⟩⟩) (by kernel_rfl) (by kernel_rfl) ?_
  show AWp _ _ _ _
  refine awp_ret ?_
  cases h
  exact ares1 (rtmp rfl (eV rfl))

noncomputable def M_made_Made (t0 : (List UInt8)) : Option G_palimpmade_Picks :=
  some (G_palimpmade_Picks.mk t0 0)
theorem ok_made_Made (t0 : (List UInt8)) (r : G_palimpmade_Picks) (h : M_made_Made t0 = some r) : FNw Tryz.prog 5 [(SL 1 c8 t0)] ⟨1, (c_palimpmade_Picks r), false⟩ := by
  refine FNw.of_body (n := 6) Tryz.func5 rfl Tryz.ntmps5 rfl rfl rfl ?_
  show AWp _ _ _ ⟨6, 0, [(0, (SL 1 c8 t0))], [], ⟨0, []⟩⟩
  unfold M_made_Made at h
  refine awp_seq ?_
  refine awp_region ?_
  refine arun_do rfl rfl rfl (ex_assign (eV (v := (Value.pointer none)) rfl)) ?_
  refine arun_keepE [0] 0 0 (st' := ⟨6, 0, [(0, (SL 1 c8 t0))], [], ⟨0, []⟩⟩) (by kernel_rfl) (by kernel_rfl) ?_
  show AWp _ _ _ _
  refine awp_seq ?_
  refine awp_region ?_
  refine arun_do rfl rfl rfl (ex_move (eV (v := (SL 1 c8 t0)) rfl)) ?_
  refine arun_do rfl rfl rfl (ex_build (qs := [(0, (SL 1 c8 t0))]) (v := (Value.agg (c_palimpmade_Picks (G_palimpmade_Picks.mk t0 0)).toArray)) (evp rfl evp_nil) (by kernel_rfl)) ?_
  refine arun_do rfl rfl rfl (ex_boxH (vx := (Value.agg (c_palimpmade_Picks (G_palimpmade_Picks.mk t0 0)).toArray)) (cs := (c_palimpmade_Picks (G_palimpmade_Picks.mk t0 0))) (k := 0) (H' := ⟨1, [(0, ⟨1, (c_palimpmade_Picks (G_palimpmade_Picks.mk t0 0)), false⟩)]⟩) (eV (v := (Value.agg (c_palimpmade_Picks (G_palimpmade_Picks.mk t0 0)).toArray)) rfl) rfl rfl rfl rfl) ?_
  refine arun_do rfl rfl rfl (ex_assign (eV (v := (NP 0 0)) rfl)) ?_
  refine arun_keepE [2] 0 1 (st' := ⟨6, 0, [(2, (NP 0 0))], [], ⟨1, [(0, ⟨1, (c_palimpmade_Picks (G_palimpmade_Picks.mk t0 0)), false⟩)]⟩⟩) (by kernel_rfl) (by kernel_rfl) ?_
  show AWp _ _ _ _
  refine awp_ret ?_
  cases h
  exact And.intro (ares1 (rtmp rfl (eV rfl))) (And.intro rfl rfl)

end Go.Proofs
