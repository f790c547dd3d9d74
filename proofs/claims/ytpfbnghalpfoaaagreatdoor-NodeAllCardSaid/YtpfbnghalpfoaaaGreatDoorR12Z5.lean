/- Pure models of functions of the program, and that its code does what they say: node row leads, node row twin. Written by a program. -/
import Derived.Test.YtpfbnghalpfoaaaGreatDoorR12ZB
set_option maxRecDepth 20000
set_option maxHeartbeats 4000000
namespace Go.Proofs
open Go Go.Fhl
set_option linter.unusedVariables false
set_option linter.unusedSimpArgs false
noncomputable def M_node_row_leads_l1 (t0 : G_node_row) : Nat → Int → Int → Option Bool
  | 0, _, _ => none
  | n1 + 1, v1, v2 =>
  cond (decide (v2 < (t0.Set.length : Int))) (cond (v1 == 0) (some true) (Option.bind (getI t0.Set v1) fun (x5 : G_api_Node) => (M_node_row_leads_l1 t0 n1) x5.Up (w64 (v2 + 1)))) (some false)
noncomputable def M_node_row_leads (t0 : G_node_row) (t1 : Int) : Option Bool :=
  M_node_row_leads_l1 t0 fuel t1 0
theorem ok_node_row_leads (t0 : G_node_row) (t1 : Int) (r : Bool) (h : M_node_row_leads t0 t1 = some r) : FFn Tryz.prog 44 [(Value.agg (c_node_row t0).toArray), (I t1)] (Bo r) := by
  refine FFn.of_body (n := 19) Tryz.func44 rfl Tryz.ntmps44 rfl rfl rfl rfl ?_
  show AWp _ _ _ ⟨19, 0, [(0, (Value.agg (c_node_row t0).toArray)), (1, (I t1))], [], ⟨0, []⟩⟩
  unfold M_node_row_leads at h
  refine awp_seq ?_
  refine awp_region ?_
  refine arun_do rfl rfl rfl (ex_box (vx := (Value.agg (c_node_row t0).toArray)) (cs := (c_node_row t0)) (k := 0) (L' := [(c_node_row t0)]) (eV (v := (Value.agg (c_node_row t0).toArray)) rfl) rfl rfl rfl) ?_
  refine arun_do rfl rfl rfl (ex_assign (eV (v := (Bo false)) rfl)) ?_
  refine arun_keepE [1, 2] 1 0 (st' := ⟨19, 0, [(1, (I t1)), (2, (LP 0 0))], [(c_node_row t0)], ⟨0, []⟩⟩) (by kernel_rfl) (by kernel_rfl) ?_
  show AWp _ _ _ _
  refine awp_seq ?_
  refine awp_seq ?_
  refine awp_region ?_
  refine arun_do rfl rfl rfl (ex_fieldAddr (v := (LP 0 0)) Tryz.underlying52 rfl s_25 (by decide) rfl rfl) ?_
  refine arun_do rfl rfl rfl (tx_ldL1 (v := (SL 5 c_api_Node t0.Set)) Tryz.underlying25 rfl rfl rfl rfl) ?_
  refine arun_do rfl rfl rfl (tx_lenD (xs := t0.Set) ce_api_Node Tryz.underlying25 rfl) ?_
  refine arun_do rfl rfl rfl (ex_move (eV (v := (I 0)) rfl)) ?_
  refine arun_keepE [1, 2, 7, 8] 1 0 (st' := ⟨19, 0, [(1, (I t1)), (2, (LP 0 0)), (7, (I (t0.Set.length : Int))), (8, (I 0))], [(c_node_row t0)], ⟨0, []⟩⟩) (by kernel_rfl) (by kernel_rfl) ?_
  show AWp _ _ _ _
  refine awp_block ?_
  refine awp_loop (fun n s => ∃ (v1 : Int) (v2 : Int), s = ⟨19, 0, [(1, (I v1)), (2, (LP 0 0)), (7, (I (t0.Set.length : Int))), (8, (I v2))], [(c_node_row t0)], ⟨0, []⟩⟩ ∧ M_node_row_leads_l1 t0 n v1 v2 = some r) fuel (Exists.intro t1 (Exists.intro 0 (And.intro rfl h))) ?_
  rintro n s ⟨v1, v2, rfl, h⟩ -
  cases n with
  | zero => cases h
  | succ n1 =>
    unfold M_node_row_leads_l1 at h
    refine awp_seq ?_
    refine awp_region ?_
    refine arun_do rfl rfl rfl (ex_bin (vx := (I v2)) (vy := (I (t0.Set.length : Int))) rfl rfl lssI_ok) ?_
    refine arun_keepE [1, 2, 7, 8, 9] 1 0 (st' := ⟨19, 0, [(1, (I v1)), (2, (LP 0 0)), (7, (I (t0.Set.length : Int))), (8, (I v2)), (9, (Bo (decide (v2 < (t0.Set.length : Int)))))], [(c_node_row t0)], ⟨0, []⟩⟩) (by kernel_rfl) (by kernel_rfl) ?_
    show AWp _ _ _ _
    refine awp_seq ?_
    rcases Bool.eq_false_or_eq_true (decide (v2 < (t0.Set.length : Int))) with hb3 | hb3
    · rw [condT hb3] at h
      refine awp_condT (boT hb3) ?_
      refine awp_skip ?_
      show AWp _ _ _ _
      refine awp_seq ?_
      refine awp_block ?_
      refine awp_seq ?_
      refine awp_seq ?_
      refine awp_region ?_
      refine arun_do rfl rfl rfl (ex_move (eV (v := (I v1)) rfl)) ?_
      refine arun_do rfl rfl rfl (ex_bin (vx := (I v1)) (vy := (I 0)) rfl rfl eqlI_ok) ?_
      refine arun_keepE [1, 2, 7, 8, 11] 1 0 (st' := ⟨19, 0, [(1, (I v1)), (2, (LP 0 0)), (7, (I (t0.Set.length : Int))), (8, (I v2)), (11, (Bo (v1 == 0)))], [(c_node_row t0)], ⟨0, []⟩⟩) (by kernel_rfl) (by kernel_rfl) ?_
      show AWp _ _ _ _
      rcases Bool.eq_false_or_eq_true (v1 == 0) with hb4 | hb4
      · rw [condT hb4] at h
        refine awp_condT (boT hb4) ?_
        refine awp_seq ?_
        refine awp_region ?_
        refine arun_do rfl rfl rfl (ex_assign (eV (v := (Bo true)) rfl)) ?_
        refine arun_keepE [4] 0 0 (st' := ⟨19, 0, [(4, (Bo true))], [], ⟨0, []⟩⟩) (by kernel_rfl) (by kernel_rfl) ?_
        show AWp _ _ _ _
        refine awp_ret ?_
        cases h
        exact ares1 (rtmp rfl (eV rfl))
      · rw [condF hb4] at h
        refine awp_condF (boF hb4) ?_
        refine awp_skip ?_
        show AWp _ _ _ _
        refine awp_region ?_
        refine arun_do rfl rfl rfl (ex_fieldAddr (v := (LP 0 0)) Tryz.underlying52 rfl s_25 (by decide) rfl rfl) ?_
        refine arun_do rfl rfl rfl (tx_ldL1 (v := (SL 5 c_api_Node t0.Set)) Tryz.underlying25 rfl rfl rfl rfl) ?_
        refine arun_do rfl rfl rfl (ex_move (eV (v := (I v1)) rfl)) ?_
        obtain ⟨x5, hx5, h⟩ := bindS h
        refine arun_do rfl rfl rfl (tx_idxD (c := c_api_Node) (xs := t0.Set) (i := v1) ce_api_Node Tryz.underlying25 s_49 rfl rfl hx5) ?_
        refine arun_do rfl rfl rfl (ex_fieldAddrD (vs := (List.drop 1 (c_api_Node x5))) Tryz.underlying49 rfl s_3 (by decide) rfl rfl) ?_
        refine arun_do rfl rfl rfl (tx_ldD1 (v := (I x5.Up)) Tryz.underlying3 rfl rfl rfl) ?_
        refine arun_do rfl rfl rfl (ex_assign (eV (v := (I x5.Up)) rfl)) ?_
        refine arun_keepE [1, 2, 7, 8] 1 0 (st' := ⟨19, 0, [(1, (I x5.Up)), (2, (LP 0 0)), (7, (I (t0.Set.length : Int))), (8, (I v2))], [(c_node_row t0)], ⟨0, []⟩⟩) (by kernel_rfl) (by kernel_rfl) ?_
        show AWp _ _ _ _
        refine awp_region ?_
        refine arun_do rfl rfl rfl (ex_bin (vx := (I v2)) (vy := (I 1)) rfl rfl addI_ok) ?_
        refine arun_do rfl rfl rfl (ex_move (eV (v := (I (w64 (v2 + 1)))) rfl)) ?_
        refine arun_keepE [1, 2, 7, 8] 1 0 (st' := ⟨19, 0, [(1, (I x5.Up)), (2, (LP 0 0)), (7, (I (t0.Set.length : Int))), (8, (I (w64 (v2 + 1))))], [(c_node_row t0)], ⟨0, []⟩⟩) (by kernel_rfl) (by kernel_rfl) ?_
        exact Exists.intro n1 (And.intro (Nat.lt_succ_self _) (Exists.intro x5.Up (Exists.intro (w64 (v2 + 1)) (And.intro rfl h))))
    · rw [condF hb3] at h
      refine awp_condF (boF hb3) ?_
      refine awp_exit ?_
      show AWp _ _ _ _
      refine awp_seq ?_
      refine awp_region ?_
      refine arun_do rfl rfl rfl (ex_assign (eV (v := (Bo false)) rfl)) ?_
      refine arun_keepE [4] 0 0 (st' := ⟨19, 0, [(4, (Bo false))], [], ⟨0, []⟩⟩) (by kernel_rfl) (by kernel_rfl) ?_
      show AWp _ _ _ _
      refine awp_ret ?_
      cases h
      exact ares1 (rtmp rfl (eV rfl))

noncomputable def M_node_row_twin_l1 (t0 : G_node_row) (t1 : Int) : Nat → Int → Option Bool
  | 0, _ => none
  | n1 + 1, v1 =>
  cond (decide (v1 < (t0.Set.length : Int))) (Option.bind (getI t0.Set v1) fun (x3 : G_api_Node) => Option.bind (gd ((((decide (v1 > 0)) && (v1 != t1)) && (x3.Kind != 0)) == true) (getI t0.Set t1)) fun (x4 : G_api_Node) => Option.bind (gd (((((decide (v1 > 0)) && (v1 != t1)) && (x3.Kind != 0)) && (x3.Up == x4.Up)) == true) (getI t0.Set t1)) fun (x5 : G_api_Node) => cond (((((decide (v1 > 0)) && (v1 != t1)) && (x3.Kind != 0)) && (x3.Up == x4.Up)) && (x3.Name == x5.Name)) (some true) ((M_node_row_twin_l1 t0 t1 n1) (w64 (v1 + 1)))) (some false)
noncomputable def M_node_row_twin (t0 : G_node_row) (t1 : Int) : Option Bool :=
  M_node_row_twin_l1 t0 t1 fuel 0
theorem ok_node_row_twin (t0 : G_node_row) (t1 : Int) (r : Bool) (h : M_node_row_twin t0 t1 = some r) : FFn Tryz.prog 45 [(Value.agg (c_node_row t0).toArray), (I t1)] (Bo r) := by
  refine FFn.of_body (n := 50) Tryz.func45 rfl Tryz.ntmps45 rfl rfl rfl rfl ?_
  show AWp _ _ _ ⟨50, 0, [(0, (Value.agg (c_node_row t0).toArray)), (1, (I t1))], [], ⟨0, []⟩⟩
  unfold M_node_row_twin at h
  refine awp_seq ?_
  refine awp_region ?_
  refine arun_do rfl rfl rfl (ex_box (vx := (Value.agg (c_node_row t0).toArray)) (cs := (c_node_row t0)) (k := 0) (L' := [(c_node_row t0)]) (eV (v := (Value.agg (c_node_row t0).toArray)) rfl) rfl rfl rfl) ?_
  refine arun_do rfl rfl rfl (ex_assign (eV (v := (Bo false)) rfl)) ?_
  refine arun_keepE [1, 2] 1 0 (st' := ⟨50, 0, [(1, (I t1)), (2, (LP 0 0))], [(c_node_row t0)], ⟨0, []⟩⟩) (by kernel_rfl) (by kernel_rfl) ?_
  show AWp _ _ _ _
  refine awp_seq ?_
  refine awp_seq ?_
  refine awp_region ?_
  refine arun_do rfl rfl rfl (ex_fieldAddr (v := (LP 0 0)) Tryz.underlying52 rfl s_25 (by decide) rfl rfl) ?_
  refine arun_do rfl rfl rfl (tx_ldL1 (v := (SL 5 c_api_Node t0.Set)) Tryz.underlying25 rfl rfl rfl rfl) ?_
  refine arun_do rfl rfl rfl (tx_lenD (xs := t0.Set) ce_api_Node Tryz.underlying25 rfl) ?_
  refine arun_do rfl rfl rfl (ex_move (eV (v := (I 0)) rfl)) ?_
  refine arun_keepE [1, 2, 8, 9, 10] 1 0 (st' := ⟨50, 0, [(1, (I t1)), (2, (LP 0 0)), (8, (SL 5 c_api_Node t0.Set)), (9, (I (t0.Set.length : Int))), (10, (I 0))], [(c_node_row t0)], ⟨0, []⟩⟩) (by kernel_rfl) (by kernel_rfl) ?_
  show AWp _ _ _ _
  refine awp_block ?_
  refine awp_loop (fun n s => ∃ (v1 : Int), s = ⟨50, 0, [(1, (I t1)), (2, (LP 0 0)), (8, (SL 5 c_api_Node t0.Set)), (9, (I (t0.Set.length : Int))), (10, (I v1))], [(c_node_row t0)], ⟨0, []⟩⟩ ∧ M_node_row_twin_l1 t0 t1 n v1 = some r) fuel (Exists.intro 0 (And.intro rfl h)) ?_
  rintro n s ⟨v1, rfl, h⟩ -
  cases n with
  | zero => cases h
  | succ n1 =>
    unfold M_node_row_twin_l1 at h
    refine awp_seq ?_
    refine awp_region ?_
    refine arun_do rfl rfl rfl (ex_bin (vx := (I v1)) (vy := (I (t0.Set.length : Int))) rfl rfl lssI_ok) ?_
    refine arun_keepE [1, 2, 8, 9, 10, 11] 1 0 (st' := ⟨50, 0, [(1, (I t1)), (2, (LP 0 0)), (8, (SL 5 c_api_Node t0.Set)), (9, (I (t0.Set.length : Int))), (10, (I v1)), (11, (Bo (decide (v1 < (t0.Set.length : Int)))))], [(c_node_row t0)], ⟨0, []⟩⟩) (by kernel_rfl) (by kernel_rfl) ?_
    show AWp _ _ _ _
    refine awp_seq ?_
    rcases Bool.eq_false_or_eq_true (decide (v1 < (t0.Set.length : Int))) with hb2 | hb2
    · rw [condT hb2] at h
      refine awp_condT (boT hb2) ?_
      refine awp_skip ?_
      show AWp _ _ _ _
      refine awp_seq ?_
      refine awp_block ?_
      refine awp_seq ?_
      refine awp_region ?_
      refine arun_do rfl rfl rfl (ex_move (eV (v := (I v1)) rfl)) ?_
      obtain ⟨x3, hx3, h⟩ := bindS h
      refine arun_do rfl rfl rfl (tx_idxD (c := c_api_Node) (xs := t0.Set) (i := v1) ce_api_Node Tryz.underlying25 s_49 rfl rfl hx3) ?_
      refine arun_do rfl rfl rfl (tx_ldDA (vs := (c_api_Node x3)) Tryz.underlying49 rfl s_49 (by decide) rfl (Nat.le_of_ble_eq_true rfl) rfl) ?_
      refine arun_do rfl rfl rfl (ex_alloc (k := 1) (zs := (c_api_Node (G_api_Node.mk 0 0 [] [] 0))) (L' := [(c_node_row t0), (c_api_Node (G_api_Node.mk 0 0 [] [] 0))]) z_49 rfl rfl rfl rfl) ?_
      refine arun_do rfl rfl rfl (ex_assign (eV (v := (I v1)) rfl)) ?_
      refine arun_do0 rfl rfl (ex_storeL (vy := (Value.agg (c_api_Node x3).toArray)) (cs := (c_api_Node (G_api_Node.mk 0 0 [] [] 0))) (vs := (c_api_Node x3)) (L' := [(c_node_row t0), (c_api_Node x3)]) rfl (eV (v := (Value.agg (c_api_Node x3).toArray)) rfl) rfl s_49 rfl (Nat.le_of_ble_eq_true rfl) (by kernel_rfl)) ?_
      refine arun_keepE [1, 2, 5, 6, 8, 9, 10] 2 0 (st' := ⟨50, 0, [(1, (I t1)), (2, (LP 0 0)), (5, (I v1)), (6, (LP 1 0)), (8, (SL 5 c_api_Node t0.Set)), (9, (I (t0.Set.length : Int))), (10, (I v1))], [(c_node_row t0), (c_api_Node x3)], ⟨0, []⟩⟩) (by kernel_rfl) (by kernel_rfl) ?_
      show AWp _ _ _ _
      refine awp_seq ?_
      obtain ⟨x4, hx4, h⟩ := bindS h
      obtain ⟨x5, hx5, h⟩ := bindS h
      refine awp_kn [1, 2, 8, 9, 10, 48] 1 0 (st' := ⟨50, 0, [(1, (I t1)), (2, (LP 0 0)), (8, (SL 5 c_api_Node t0.Set)), (9, (I (t0.Set.length : Int))), (10, (I v1)), (48, (Bo (((((decide (v1 > 0)) && (v1 != t1)) && (x3.Kind != 0)) && (x3.Up == x4.Up)) && (x3.Name == x5.Name))))], [(c_node_row t0)], ⟨0, []⟩⟩) (awp_draw (T := [(I v1), (Bo (decide (v1 > 0))), (Bo (decide (v1 > 0))), (cond ((decide (v1 > 0)) == true) (I v1) skipV), (cond ((decide (v1 > 0)) == true) (I t1) skipV), (cond ((decide (v1 > 0)) == true) (Bo (v1 != t1)) skipV), (Bo ((decide (v1 > 0)) && (v1 != t1))), (Bo ((decide (v1 > 0)) && (v1 != t1))), (cond (((decide (v1 > 0)) && (v1 != t1)) == true) (LP 1 0) skipV), (cond (((decide (v1 > 0)) && (v1 != t1)) == true) (I x3.Kind) skipV), (cond (((decide (v1 > 0)) && (v1 != t1)) == true) (Bo (x3.Kind != 0)) skipV), (Bo (((decide (v1 > 0)) && (v1 != t1)) && (x3.Kind != 0))), (Bo (((decide (v1 > 0)) && (v1 != t1)) && (x3.Kind != 0))), (cond ((((decide (v1 > 0)) && (v1 != t1)) && (x3.Kind != 0)) == true) (LP 1 1) skipV), (cond ((((decide (v1 > 0)) && (v1 != t1)) && (x3.Kind != 0)) == true) (I x3.Up) skipV), (cond ((((decide (v1 > 0)) && (v1 != t1)) && (x3.Kind != 0)) == true) (LP 0 0) skipV), (cond ((((decide (v1 > 0)) && (v1 != t1)) && (x3.Kind != 0)) == true) (SL 5 c_api_Node t0.Set) skipV), (cond ((((decide (v1 > 0)) && (v1 != t1)) && (x3.Kind != 0)) == true) (I t1) skipV), (cond ((((decide (v1 > 0)) && (v1 != t1)) && (x3.Kind != 0)) == true) (DP (c_api_Node x4)) skipV), (cond ((((decide (v1 > 0)) && (v1 != t1)) && (x3.Kind != 0)) == true) (DP (List.drop 1 (c_api_Node x4))) skipV), (cond ((((decide (v1 > 0)) && (v1 != t1)) && (x3.Kind != 0)) == true) (I x4.Up) skipV), (cond ((((decide (v1 > 0)) && (v1 != t1)) && (x3.Kind != 0)) == true) (Bo (x3.Up == x4.Up)) skipV), (Bo ((((decide (v1 > 0)) && (v1 != t1)) && (x3.Kind != 0)) && (x3.Up == x4.Up))), (Bo ((((decide (v1 > 0)) && (v1 != t1)) && (x3.Kind != 0)) && (x3.Up == x4.Up))), (cond (((((decide (v1 > 0)) && (v1 != t1)) && (x3.Kind != 0)) && (x3.Up == x4.Up)) == true) (LP 1 2) skipV), (cond (((((decide (v1 > 0)) && (v1 != t1)) && (x3.Kind != 0)) && (x3.Up == x4.Up)) == true) (S x3.Name) skipV), (cond (((((decide (v1 > 0)) && (v1 != t1)) && (x3.Kind != 0)) && (x3.Up == x4.Up)) == true) (LP 0 0) skipV), (cond (((((decide (v1 > 0)) && (v1 != t1)) && (x3.Kind != 0)) && (x3.Up == x4.Up)) == true) (SL 5 c_api_Node t0.Set) skipV), (cond (((((decide (v1 > 0)) && (v1 != t1)) && (x3.Kind != 0)) && (x3.Up == x4.Up)) == true) (I t1) skipV), (cond (((((decide (v1 > 0)) && (v1 != t1)) && (x3.Kind != 0)) && (x3.Up == x4.Up)) == true) (DP (c_api_Node x5)) skipV), (cond (((((decide (v1 > 0)) && (v1 != t1)) && (x3.Kind != 0)) && (x3.Up == x4.Up)) == true) (DP (List.drop 2 (c_api_Node x5))) skipV), (cond (((((decide (v1 > 0)) && (v1 != t1)) && (x3.Kind != 0)) && (x3.Up == x4.Up)) == true) (S x5.Name) skipV), (cond (((((decide (v1 > 0)) && (v1 != t1)) && (x3.Kind != 0)) && (x3.Up == x4.Up)) == true) (Bo (x3.Name == x5.Name)) skipV), (Bo (((((decide (v1 > 0)) && (v1 != t1)) && (x3.Kind != 0)) && (x3.Up == x4.Up)) && (x3.Name == x5.Name)))]) (LH := [([(c_node_row t0), (c_api_Node x3)], ⟨0, []⟩)]) (D := [⟨[(5, none)], [], [0], false⟩, ⟨[(15, some 0)], [0], [0], false⟩, ⟨[(16, some 1)], [0, 1], [0], false⟩, ⟨[(5, none), (17, some 2)], [0, 1, 2], [0], false⟩, ⟨[(1, none), (17, some 2)], [0, 1, 2], [0], false⟩, ⟨[(18, some 3), (19, some 4), (17, some 2)], [0, 1, 2, 3, 4], [0], false⟩, ⟨[(17, some 2), (20, some 5)], [0, 1, 2, 3, 4, 5], [0], false⟩, ⟨[(21, some 6)], [0, 1, 2, 3, 4, 5, 6], [0], false⟩, ⟨[(6, none), (22, some 7)], [0, 1, 2, 3, 4, 5, 6, 7], [0], false⟩, ⟨[(23, some 8), (22, some 7)], [0, 1, 2, 3, 4, 5, 6, 7, 8], [0], false⟩, ⟨[(24, some 9), (22, some 7)], [0, 1, 2, 3, 4, 5, 6, 7, 8, 9], [0], false⟩, ⟨[(22, some 7), (25, some 10)], [0, 1, 2, 3, 4, 5, 6, 7, 8, 9, 10], [0], false⟩, ⟨[(26, some 11)], [0, 1, 2, 3, 4, 5, 6, 7, 8, 9, 10, 11], [0], false⟩, ⟨[(6, none), (27, some 12)], [0, 1, 2, 3, 4, 5, 6, 7, 8, 9, 10, 11, 12], [0], false⟩, ⟨[(28, some 13), (27, some 12)], [0, 1, 2, 3, 4, 5, 6, 7, 8, 9, 10, 11, 12, 13], [0], false⟩, ⟨[(2, none), (27, some 12)], [0, 1, 2, 3, 4, 5, 6, 7, 8, 9, 10, 11, 12], [0], false⟩, ⟨[(30, some 15), (27, some 12)], [0, 1, 2, 3, 4, 5, 6, 7, 8, 9, 10, 11, 12, 15], [0], false⟩, ⟨[(1, none), (27, some 12)], [0, 1, 2, 3, 4, 5, 6, 7, 8, 9, 10, 11, 12], [0], false⟩, ⟨[(31, some 16), (32, some 17), (27, some 12)], [0, 1, 2, 3, 4, 5, 6, 7, 8, 9, 10, 11, 12, 15, 16, 17], [0], false⟩, ⟨[(33, some 18), (27, some 12)], [0, 1, 2, 3, 4, 5, 6, 7, 8, 9, 10, 11, 12, 15, 16, 17, 18], [0], false⟩, ⟨[(34, some 19), (27, some 12)], [0, 1, 2, 3, 4, 5, 6, 7, 8, 9, 10, 11, 12, 15, 16, 17, 18, 19], [0], false⟩, ⟨[(29, some 14), (35, some 20), (27, some 12)], [0, 1, 2, 3, 4, 5, 6, 7, 8, 9, 10, 11, 12, 13, 14, 15, 16, 17, 18, 19, 20], [0], false⟩, ⟨[(27, some 12), (36, some 21)], [0, 1, 2, 3, 4, 5, 6, 7, 8, 9, 10, 11, 12, 13, 14, 15, 16, 17, 18, 19, 20, 21], [0], false⟩, ⟨[(37, some 22)], [0, 1, 2, 3, 4, 5, 6, 7, 8, 9, 10, 11, 12, 13, 14, 15, 16, 17, 18, 19, 20, 21, 22], [0], false⟩, ⟨[(6, none), (38, some 23)], [0, 1, 2, 3, 4, 5, 6, 7, 8, 9, 10, 11, 12, 13, 14, 15, 16, 17, 18, 19, 20, 21, 22, 23], [0], false⟩, ⟨[(39, some 24), (38, some 23)], [0, 1, 2, 3, 4, 5, 6, 7, 8, 9, 10, 11, 12, 13, 14, 15, 16, 17, 18, 19, 20, 21, 22, 23, 24], [0], false⟩, ⟨[(2, none), (38, some 23)], [0, 1, 2, 3, 4, 5, 6, 7, 8, 9, 10, 11, 12, 13, 14, 15, 16, 17, 18, 19, 20, 21, 22, 23], [0], false⟩, ⟨[(41, some 26), (38, some 23)], [0, 1, 2, 3, 4, 5, 6, 7, 8, 9, 10, 11, 12, 13, 14, 15, 16, 17, 18, 19, 20, 21, 22, 23, 26], [0], false⟩, ⟨[(1, none), (38, some 23)], [0, 1, 2, 3, 4, 5, 6, 7, 8, 9, 10, 11, 12, 13, 14, 15, 16, 17, 18, 19, 20, 21, 22, 23], [0], false⟩, ⟨[(42, some 27), (43, some 28), (38, some 23)], [0, 1, 2, 3, 4, 5, 6, 7, 8, 9, 10, 11, 12, 13, 14, 15, 16, 17, 18, 19, 20, 21, 22, 23, 26, 27, 28], [0], false⟩, ⟨[(44, some 29), (38, some 23)], [0, 1, 2, 3, 4, 5, 6, 7, 8, 9, 10, 11, 12, 13, 14, 15, 16, 17, 18, 19, 20, 21, 22, 23, 26, 27, 28, 29], [0], false⟩, ⟨[(45, some 30), (38, some 23)], [0, 1, 2, 3, 4, 5, 6, 7, 8, 9, 10, 11, 12, 13, 14, 15, 16, 17, 18, 19, 20, 21, 22, 23, 26, 27, 28, 29, 30], [0], false⟩, ⟨[(40, some 25), (46, some 31), (38, some 23)], [0, 1, 2, 3, 4, 5, 6, 7, 8, 9, 10, 11, 12, 13, 14, 15, 16, 17, 18, 19, 20, 21, 22, 23, 24, 25, 26, 27, 28, 29, 30, 31], [0], false⟩, ⟨[(38, some 23), (47, some 32)], [0, 1, 2, 3, 4, 5, 6, 7, 8, 9, 10, 11, 12, 13, 14, 15, 16, 17, 18, 19, 20, 21, 22, 23, 24, 25, 26, 27, 28, 29, 30, 31, 32], [0], false⟩]) (S := []) (plan := [0, 1, 2, 3, 4, 5, 6, 7, 8, 9, 10, 11, 12, 13, 14, 15, 16, 17, 18, 19, 20, 21, 22, 23, 24, 25, 26, 27, 28, 29, 30, 31, 32, 33]) mo (by kernel_rfl) rfl rfl rfl (dcons (dstep1 (Tm := [(5, (I v1))]) (L := [(c_node_row t0), (c_api_Node x3)]) (H := ⟨0, []⟩) rfl rfl rfl rfl rfl (astep_do rfl (ex_move (eV (v := (I v1)) rfl)))) (dcons (dstep1 (Tm := [(15, (I v1))]) (L := [(c_node_row t0), (c_api_Node x3)]) (H := ⟨0, []⟩) rfl rfl rfl rfl rfl (astep_do rfl (ex_bin (vx := (I v1)) (vy := (I 0)) rfl rfl gtrI_ok))) (dcons (dstep1 (Tm := [(16, (Bo (decide (v1 > 0))))]) (L := [(c_node_row t0), (c_api_Node x3)]) (H := ⟨0, []⟩) rfl rfl rfl rfl rfl (astep_do rfl (ex_move (eV (v := (Bo (decide (v1 > 0)))) rfl)))) (dcons (dstep1 (Tm := [(5, (I v1)), (17, (Bo (decide (v1 > 0))))]) (L := [(c_node_row t0), (c_api_Node x3)]) (H := ⟨0, []⟩) rfl rfl rfl rfl rfl (astep_guard (v := (I v1)) ((decide (v1 > 0)) == true) rfl (fun hc => ex_move (eV (v := (I v1)) rfl)))) (dcons (dstep1 (Tm := [(1, (I t1)), (17, (Bo (decide (v1 > 0))))]) (L := [(c_node_row t0), (c_api_Node x3)]) (H := ⟨0, []⟩) rfl rfl rfl rfl rfl (astep_guard (v := (I t1)) ((decide (v1 > 0)) == true) rfl (fun hc => ex_move (eV (v := (I t1)) rfl)))) (dcons (dstep1 (Tm := [(18, (cond ((decide (v1 > 0)) == true) (I v1) skipV)), (19, (cond ((decide (v1 > 0)) == true) (I t1) skipV)), (17, (Bo (decide (v1 > 0))))]) (L := [(c_node_row t0), (c_api_Node x3)]) (H := ⟨0, []⟩) rfl rfl rfl rfl rfl (astep_guard (v := (Bo (v1 != t1))) ((decide (v1 > 0)) == true) rfl (fun hc => ex_bin (vx := (I v1)) (vy := (I t1)) (cond_of hc) (cond_of hc) neqI_ok))) (dcons (dstep1 (Tm := [(17, (Bo (decide (v1 > 0)))), (20, (cond ((decide (v1 > 0)) == true) (Bo (v1 != t1)) skipV))]) (L := [(c_node_row t0), (c_api_Node x3)]) (H := ⟨0, []⟩) rfl rfl rfl rfl rfl (astep_do rfl (ex_pick rfl pkAnd))) (dcons (dstep1 (Tm := [(21, (Bo ((decide (v1 > 0)) && (v1 != t1))))]) (L := [(c_node_row t0), (c_api_Node x3)]) (H := ⟨0, []⟩) rfl rfl rfl rfl rfl (astep_do rfl (ex_move (eV (v := (Bo ((decide (v1 > 0)) && (v1 != t1)))) rfl)))) (dcons (dstep1 (Tm := [(6, (LP 1 0)), (22, (Bo ((decide (v1 > 0)) && (v1 != t1))))]) (L := [(c_node_row t0), (c_api_Node x3)]) (H := ⟨0, []⟩) rfl rfl rfl rfl rfl (astep_guard (v := (LP 1 0)) (((decide (v1 > 0)) && (v1 != t1)) == true) rfl (fun hc => ex_fieldAddr (v := (LP 1 0)) Tryz.underlying49 rfl s_3 (by decide) rfl rfl))) (dcons (dstep1 (Tm := [(23, (cond (((decide (v1 > 0)) && (v1 != t1)) == true) (LP 1 0) skipV)), (22, (Bo ((decide (v1 > 0)) && (v1 != t1))))]) (L := [(c_node_row t0), (c_api_Node x3)]) (H := ⟨0, []⟩) rfl rfl rfl rfl rfl (astep_guard (v := (I x3.Kind)) (((decide (v1 > 0)) && (v1 != t1)) == true) rfl (fun hc => tx_ldL1 (v := (I x3.Kind)) Tryz.underlying3 rfl (cond_of hc) rfl rfl))) (dcons (dstep1 (Tm := [(24, (cond (((decide (v1 > 0)) && (v1 != t1)) == true) (I x3.Kind) skipV)), (22, (Bo ((decide (v1 > 0)) && (v1 != t1))))]) (L := [(c_node_row t0), (c_api_Node x3)]) (H := ⟨0, []⟩) rfl rfl rfl rfl rfl (astep_guard (v := (Bo (x3.Kind != 0))) (((decide (v1 > 0)) && (v1 != t1)) == true) rfl (fun hc => ex_bin (vx := (I x3.Kind)) (vy := (I 0)) (cond_of hc) rfl neqI_ok))) (dcons (dstep1 (Tm := [(22, (Bo ((decide (v1 > 0)) && (v1 != t1)))), (25, (cond (((decide (v1 > 0)) && (v1 != t1)) == true) (Bo (x3.Kind != 0)) skipV))]) (L := [(c_node_row t0), (c_api_Node x3)]) (H := ⟨0, []⟩) rfl rfl rfl rfl rfl (astep_do rfl (ex_pick rfl pkAnd))) (dcons (dstep1 (Tm := [(26, (Bo (((decide (v1 > 0)) && (v1 != t1)) && (x3.Kind != 0))))]) (L := [(c_node_row t0), (c_api_Node x3)]) (H := ⟨0, []⟩) rfl rfl rfl rfl rfl (astep_do rfl (ex_move (eV (v := (Bo (((decide (v1 > 0)) && (v1 != t1)) && (x3.Kind != 0)))) rfl)))) (dcons (dstep1 (Tm := [(6, (LP 1 0)), (27, (Bo (((decide (v1 > 0)) && (v1 != t1)) && (x3.Kind != 0))))]) (L := [(c_node_row t0), (c_api_Node x3)]) (H := ⟨0, []⟩) rfl rfl rfl rfl rfl (astep_guard (v := (LP 1 1)) ((((decide (v1 > 0)) && (v1 != t1)) && (x3.Kind != 0)) == true) rfl (fun hc => ex_fieldAddr (v := (LP 1 1)) Tryz.underlying49 rfl s_3 (by decide) rfl rfl))) (dcons (dstep1 (Tm := [(28, (cond ((((decide (v1 > 0)) && (v1 != t1)) && (x3.Kind != 0)) == true) (LP 1 1) skipV)), (27, (Bo (((decide (v1 > 0)) && (v1 != t1)) && (x3.Kind != 0))))]) (L := [(c_node_row t0), (c_api_Node x3)]) (H := ⟨0, []⟩) rfl rfl rfl rfl rfl (astep_guard (v := (I x3.Up)) ((((decide (v1 > 0)) && (v1 != t1)) && (x3.Kind != 0)) == true) rfl (fun hc => tx_ldL1 (v := (I x3.Up)) Tryz.underlying3 rfl (cond_of hc) rfl rfl))) (dcons (dstep1 (Tm := [(2, (LP 0 0)), (27, (Bo (((decide (v1 > 0)) && (v1 != t1)) && (x3.Kind != 0))))]) (L := [(c_node_row t0), (c_api_Node x3)]) (H := ⟨0, []⟩) rfl rfl rfl rfl rfl (astep_guard (v := (LP 0 0)) ((((decide (v1 > 0)) && (v1 != t1)) && (x3.Kind != 0)) == true) rfl (fun hc => ex_fieldAddr (v := (LP 0 0)) Tryz.underlying52 rfl s_25 (by decide) rfl rfl))) (dcons (dstep1 (Tm := [(30, (cond ((((decide (v1 > 0)) && (v1 != t1)) && (x3.Kind != 0)) == true) (LP 0 0) skipV)), (27, (Bo (((decide (v1 > 0)) && (v1 != t1)) && (x3.Kind != 0))))]) (L := [(c_node_row t0), (c_api_Node x3)]) (H := ⟨0, []⟩) rfl rfl rfl rfl rfl (astep_guard (v := (SL 5 c_api_Node t0.Set)) ((((decide (v1 > 0)) && (v1 != t1)) && (x3.Kind != 0)) == true) rfl (fun hc => tx_ldL1 (v := (SL 5 c_api_Node t0.Set)) Tryz.underlying25 rfl (cond_of hc) rfl rfl))) (dcons (dstep1 (Tm := [(1, (I t1)), (27, (Bo (((decide (v1 > 0)) && (v1 != t1)) && (x3.Kind != 0))))]) (L := [(c_node_row t0), (c_api_Node x3)]) (H := ⟨0, []⟩) rfl rfl rfl rfl rfl (astep_guard (v := (I t1)) ((((decide (v1 > 0)) && (v1 != t1)) && (x3.Kind != 0)) == true) rfl (fun hc => ex_move (eV (v := (I t1)) rfl)))) (dcons (dstep1 (Tm := [(31, (cond ((((decide (v1 > 0)) && (v1 != t1)) && (x3.Kind != 0)) == true) (SL 5 c_api_Node t0.Set) skipV)), (32, (cond ((((decide (v1 > 0)) && (v1 != t1)) && (x3.Kind != 0)) == true) (I t1) skipV)), (27, (Bo (((decide (v1 > 0)) && (v1 != t1)) && (x3.Kind != 0))))]) (L := [(c_node_row t0), (c_api_Node x3)]) (H := ⟨0, []⟩) rfl rfl rfl rfl rfl (astep_guard (v := (DP (c_api_Node x4))) ((((decide (v1 > 0)) && (v1 != t1)) && (x3.Kind != 0)) == true) rfl (fun hc => tx_idxD (c := c_api_Node) (xs := t0.Set) (i := t1) ce_api_Node Tryz.underlying25 s_49 (cond_of hc) (cond_of hc) (gd_of hc hx4)))) (dcons (dstep1 (Tm := [(33, (cond ((((decide (v1 > 0)) && (v1 != t1)) && (x3.Kind != 0)) == true) (DP (c_api_Node x4)) skipV)), (27, (Bo (((decide (v1 > 0)) && (v1 != t1)) && (x3.Kind != 0))))]) (L := [(c_node_row t0), (c_api_Node x3)]) (H := ⟨0, []⟩) rfl rfl rfl rfl rfl (astep_guard (v := (DP (List.drop 1 (c_api_Node x4)))) ((((decide (v1 > 0)) && (v1 != t1)) && (x3.Kind != 0)) == true) rfl (fun hc => ex_fieldAddrD (vs := (List.drop 1 (c_api_Node x4))) Tryz.underlying49 rfl s_3 (by decide) (cond_of hc) rfl))) (dcons (dstep1 (Tm := [(34, (cond ((((decide (v1 > 0)) && (v1 != t1)) && (x3.Kind != 0)) == true) (DP (List.drop 1 (c_api_Node x4))) skipV)), (27, (Bo (((decide (v1 > 0)) && (v1 != t1)) && (x3.Kind != 0))))]) (L := [(c_node_row t0), (c_api_Node x3)]) (H := ⟨0, []⟩) rfl rfl rfl rfl rfl (astep_guard (v := (I x4.Up)) ((((decide (v1 > 0)) && (v1 != t1)) && (x3.Kind != 0)) == true) rfl (fun hc => tx_ldD1 (v := (I x4.Up)) Tryz.underlying3 rfl (cond_of hc) rfl))) (dcons (dstep1 (Tm := [(29, (cond ((((decide (v1 > 0)) && (v1 != t1)) && (x3.Kind != 0)) == true) (I x3.Up) skipV)), (35, (cond ((((decide (v1 > 0)) && (v1 != t1)) && (x3.Kind != 0)) == true) (I x4.Up) skipV)), (27, (Bo (((decide (v1 > 0)) && (v1 != t1)) && (x3.Kind != 0))))]) (L := [(c_node_row t0), (c_api_Node x3)]) (H := ⟨0, []⟩) rfl rfl rfl rfl rfl (astep_guard (v := (Bo (x3.Up == x4.Up))) ((((decide (v1 > 0)) && (v1 != t1)) && (x3.Kind != 0)) == true) rfl (fun hc => ex_bin (vx := (I x3.Up)) (vy := (I x4.Up)) (cond_of hc) (cond_of hc) eqlI_ok))) (dcons (dstep1 (Tm := [(27, (Bo (((decide (v1 > 0)) && (v1 != t1)) && (x3.Kind != 0)))), (36, (cond ((((decide (v1 > 0)) && (v1 != t1)) && (x3.Kind != 0)) == true) (Bo (x3.Up == x4.Up)) skipV))]) (L := [(c_node_row t0), (c_api_Node x3)]) (H := ⟨0, []⟩) rfl rfl rfl rfl rfl (astep_do rfl (ex_pick rfl pkAnd))) (dcons (dstep1 (Tm := [(37, (Bo ((((decide (v1 > 0)) && (v1 != t1)) && (x3.Kind != 0)) && (x3.Up == x4.Up))))]) (L := [(c_node_row t0), (c_api_Node x3)]) (H := ⟨0, []⟩) rfl rfl rfl rfl rfl (astep_do rfl (ex_move (eV (v := (Bo ((((decide (v1 > 0)) && (v1 != t1)) && (x3.Kind != 0)) && (x3.Up == x4.Up)))) rfl)))) (dcons (dstep1 (Tm := [(6, (LP 1 0)), (38, (Bo ((((decide (v1 > 0)) && (v1 != t1)) && (x3.Kind != 0)) && (x3.Up == x4.Up))))]) (L := [(c_node_row t0), (c_api_Node x3)]) (H := ⟨0, []⟩) rfl rfl rfl rfl rfl (astep_guard (v := (LP 1 2)) (((((decide (v1 > 0)) && (v1 != t1)) && (x3.Kind != 0)) && (x3.Up == x4.Up)) == true) rfl (fun hc => ex_fieldAddr (v := (LP 1 2)) Tryz.underlying49 rfl s_9 (by decide) rfl rfl))) (dcons (dstep1 (Tm := [(39, (cond (((((decide (v1 > 0)) && (v1 != t1)) && (x3.Kind != 0)) && (x3.Up == x4.Up)) == true) (LP 1 2) skipV)), (38, (Bo ((((decide (v1 > 0)) && (v1 != t1)) && (x3.Kind != 0)) && (x3.Up == x4.Up))))]) (L := [(c_node_row t0), (c_api_Node x3)]) (H := ⟨0, []⟩) rfl rfl rfl rfl rfl (astep_guard (v := (S x3.Name)) (((((decide (v1 > 0)) && (v1 != t1)) && (x3.Kind != 0)) && (x3.Up == x4.Up)) == true) rfl (fun hc => tx_ldL1 (v := (S x3.Name)) Tryz.underlying9 rfl (cond_of hc) rfl rfl))) (dcons (dstep1 (Tm := [(2, (LP 0 0)), (38, (Bo ((((decide (v1 > 0)) && (v1 != t1)) && (x3.Kind != 0)) && (x3.Up == x4.Up))))]) (L := [(c_node_row t0), (c_api_Node x3)]) (H := ⟨0, []⟩) rfl rfl rfl rfl rfl (astep_guard (v := (LP 0 0)) (((((decide (v1 > 0)) && (v1 != t1)) && (x3.Kind != 0)) && (x3.Up == x4.Up)) == true) rfl (fun hc => ex_fieldAddr (v := (LP 0 0)) Tryz.underlying52 rfl s_25 (by decide) rfl rfl))) (dcons (dstep1 (Tm := [(41, (cond (((((decide (v1 > 0)) && (v1 != t1)) && (x3.Kind != 0)) && (x3.Up == x4.Up)) == true) (LP 0 0) skipV)), (38, (Bo ((((decide (v1 > 0)) && (v1 != t1)) && (x3.Kind != 0)) && (x3.Up == x4.Up))))]) (L := [(c_node_row t0), (c_api_Node x3)]) (H := ⟨0, []⟩) rfl rfl rfl rfl rfl (astep_guard (v := (SL 5 c_api_Node t0.Set)) (((((decide (v1 > 0)) && (v1 != t1)) && (x3.Kind != 0)) && (x3.Up == x4.Up)) == true) rfl (fun hc => tx_ldL1 (v := (SL 5 c_api_Node t0.Set)) Tryz.underlying25 rfl (cond_of hc) rfl rfl))) (dcons (dstep1 (Tm := [(1, (I t1)), (38, (Bo ((((decide (v1 > 0)) && (v1 != t1)) && (x3.Kind != 0)) && (x3.Up == x4.Up))))]) (L := [(c_node_row t0), (c_api_Node x3)]) (H := ⟨0, []⟩) rfl rfl rfl rfl rfl (astep_guard (v := (I t1)) (((((decide (v1 > 0)) && (v1 != t1)) && (x3.Kind != 0)) && (x3.Up == x4.Up)) == true) rfl (fun hc => ex_move (eV (v := (I t1)) rfl)))) (dcons (dstep1 (Tm := [(42, (cond (((((decide (v1 > 0)) && (v1 != t1)) && (x3.Kind != 0)) && (x3.Up == x4.Up)) == true) (SL 5 c_api_Node t0.Set) skipV)), (43, (cond (((((decide (v1 > 0)) && (v1 != t1)) && (x3.Kind != 0)) && (x3.Up == x4.Up)) == true) (I t1) skipV)), (38, (Bo ((((decide (v1 > 0)) && (v1 != t1)) && (x3.Kind != 0)) && (x3.Up == x4.Up))))]) (L := [(c_node_row t0), (c_api_Node x3)]) (H := ⟨0, []⟩) rfl rfl rfl rfl rfl (astep_guard (v := (DP (c_api_Node x5))) (((((decide (v1 > 0)) && (v1 != t1)) && (x3.Kind != 0)) && (x3.Up == x4.Up)) == true) rfl (fun hc => tx_idxD (c := c_api_Node) (xs := t0.Set) (i := t1) ce_api_Node Tryz.underlying25 s_49 (cond_of hc) (cond_of hc) (gd_of hc hx5)))) (dcons (dstep1 (Tm := [(44, (cond (((((decide (v1 > 0)) && (v1 != t1)) && (x3.Kind != 0)) && (x3.Up == x4.Up)) == true) (DP (c_api_Node x5)) skipV)), (38, (Bo ((((decide (v1 > 0)) && (v1 != t1)) && (x3.Kind != 0)) && (x3.Up == x4.Up))))]) (L := [(c_node_row t0), (c_api_Node x3)]) (H := ⟨0, []⟩) rfl rfl rfl rfl rfl (astep_guard (v := (DP (List.drop 2 (c_api_Node x5)))) (((((decide (v1 > 0)) && (v1 != t1)) && (x3.Kind != 0)) && (x3.Up == x4.Up)) == true) rfl (fun hc => ex_fieldAddrD (vs := (List.drop 2 (c_api_Node x5))) Tryz.underlying49 rfl s_9 (by decide) (cond_of hc) rfl))) (dcons (dstep1 (Tm := [(45, (cond (((((decide (v1 > 0)) && (v1 != t1)) && (x3.Kind != 0)) && (x3.Up == x4.Up)) == true) (DP (List.drop 2 (c_api_Node x5))) skipV)), (38, (Bo ((((decide (v1 > 0)) && (v1 != t1)) && (x3.Kind != 0)) && (x3.Up == x4.Up))))]) (L := [(c_node_row t0), (c_api_Node x3)]) (H := ⟨0, []⟩) rfl rfl rfl rfl rfl (astep_guard (v := (S x5.Name)) (((((decide (v1 > 0)) && (v1 != t1)) && (x3.Kind != 0)) && (x3.Up == x4.Up)) == true) rfl (fun hc => tx_ldD1 (v := (S x5.Name)) Tryz.underlying9 rfl (cond_of hc) rfl))) (dcons (dstep1 (Tm := [(40, (cond (((((decide (v1 > 0)) && (v1 != t1)) && (x3.Kind != 0)) && (x3.Up == x4.Up)) == true) (S x3.Name) skipV)), (46, (cond (((((decide (v1 > 0)) && (v1 != t1)) && (x3.Kind != 0)) && (x3.Up == x4.Up)) == true) (S x5.Name) skipV)), (38, (Bo ((((decide (v1 > 0)) && (v1 != t1)) && (x3.Kind != 0)) && (x3.Up == x4.Up))))]) (L := [(c_node_row t0), (c_api_Node x3)]) (H := ⟨0, []⟩) rfl rfl rfl rfl rfl (astep_guard (v := (Bo (x3.Name == x5.Name))) (((((decide (v1 > 0)) && (v1 != t1)) && (x3.Kind != 0)) && (x3.Up == x4.Up)) == true) rfl (fun hc => ex_bin (vx := (S x3.Name)) (vy := (S x5.Name)) (cond_of hc) (cond_of hc) eqlS_ok))) (dcons (dstep1 (Tm := [(38, (Bo ((((decide (v1 > 0)) && (v1 != t1)) && (x3.Kind != 0)) && (x3.Up == x4.Up)))), (47, (cond (((((decide (v1 > 0)) && (v1 != t1)) && (x3.Kind != 0)) && (x3.Up == x4.Up)) == true) (Bo (x3.Name == x5.Name)) skipV))]) (L := [(c_node_row t0), (c_api_Node x3)]) (H := ⟨0, []⟩) rfl rfl rfl rfl rfl (astep_do rfl (ex_pick rfl pkAnd))) dnil)))))))))))))))))))))))))))))))))) ⟨rfl, rfl⟩) (by kernel_rfl) (by kernel_rfl) ?_
      show AWp _ _ _ _
      rcases Bool.eq_false_or_eq_true (((((decide (v1 > 0)) && (v1 != t1)) && (x3.Kind != 0)) && (x3.Up == x4.Up)) && (x3.Name == x5.Name)) with hb6 | hb6
      · rw [condT hb6] at h
        refine awp_condT (boT hb6) ?_
        refine awp_seq ?_
        refine awp_region ?_
        refine arun_do rfl rfl rfl (ex_assign (eV (v := (Bo true)) rfl)) ?_
        refine arun_keepE [4] 0 0 (st' := ⟨50, 0, [(4, (Bo true))], [], ⟨0, []⟩⟩) (by kernel_rfl) (by kernel_rfl) ?_
        show AWp _ _ _ _
        refine awp_ret ?_
        cases h
        exact ares1 (rtmp rfl (eV rfl))
      · rw [condF hb6] at h
        refine awp_condF (boF hb6) ?_
        refine awp_skip ?_
        show AWp _ _ _ _
        refine awp_region ?_
        refine arun_do rfl rfl rfl (ex_bin (vx := (I v1)) (vy := (I 1)) rfl rfl addI_ok) ?_
        refine arun_do rfl rfl rfl (ex_move (eV (v := (I (w64 (v1 + 1)))) rfl)) ?_
        refine arun_keepE [1, 2, 8, 9, 10] 1 0 (st' := ⟨50, 0, [(1, (I t1)), (2, (LP 0 0)), (8, (SL 5 c_api_Node t0.Set)), (9, (I (t0.Set.length : Int))), (10, (I (w64 (v1 + 1))))], [(c_node_row t0)], ⟨0, []⟩⟩) (by kernel_rfl) (by kernel_rfl) ?_
        exact Exists.intro n1 (And.intro (Nat.lt_succ_self _) (Exists.intro (w64 (v1 + 1)) (And.intro rfl h)))
    · rw [condF hb2] at h
      refine awp_condF (boF hb2) ?_
      refine awp_exit ?_
      show AWp _ _ _ _
      refine awp_seq ?_
      refine awp_region ?_
      refine arun_do rfl rfl rfl (ex_assign (eV (v := (Bo false)) rfl)) ?_
      refine arun_keepE [4] 0 0 (st' := ⟨50, 0, [(4, (Bo false))], [], ⟨0, []⟩⟩) (by kernel_rfl) (by kernel_rfl) ?_
      show AWp _ _ _ _
      refine awp_ret ?_
      cases h
      exact ares1 (rtmp rfl (eV rfl))

end Go.Proofs
