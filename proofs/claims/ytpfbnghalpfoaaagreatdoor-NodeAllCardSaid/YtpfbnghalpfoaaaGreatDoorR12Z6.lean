/- Pure models of functions of the program, and that its code does what they say: node row may, node May, api Node], strconv small. Written by a program. -/
import Derived.Test.YtpfbnghalpfoaaaGreatDoorR12Z4
import Derived.Test.YtpfbnghalpfoaaaGreatDoorR12Z5
import Derived.Test.YtpfbnghalpfoaaaGreatDoorR12ZB
set_option maxRecDepth 20000
set_option maxHeartbeats 4000000
namespace Go.Proofs
open Go Go.Fhl
set_option linter.unusedVariables false
set_option linter.unusedSimpArgs false
noncomputable def M_node_row_may_l2 (c_1 : (Int → Option Bool)) (t0 : G_node_row) : Nat → Int → Option Bool
  | 0, _ => none
  | n2 + 1, v9 =>
  cond (decide (v9 < (t0.Set.length : Int))) (Option.bind (getI t0.Set v9) fun (x11 : G_api_Node) => Option.bind (gd (((decide (v9 > 0)) && (x11.Kind != 0)) == true) (M_node_row_leads t0 v9)) fun (x12 : Bool) => Option.bind (gd ((((decide (v9 > 0)) && (x11.Kind != 0)) == true) && ((!x12) == false)) (M_node_row_twin t0 v9)) fun (x13 : Bool) => cond (((decide (v9 > 0)) && (x11.Kind != 0)) && ((!x12) || x13)) (some false) ((M_node_row_may_l2 c_1 t0 n2) (w64 (v9 + 1)))) (some true)
noncomputable def M_node_row_may_l1 (t0 : G_node_row) (x3 : (List G_api_Node)) : Nat → Int → Option Bool
  | 0, _ => none
  | n1 + 1, v4 =>
  cond (decide (v4 < (x3.length : Int))) (Option.bind (getI x3 v4) fun (x6 : G_api_Node) => Option.bind (gd ((!decide (x6 = (G_api_Node.mk 0 0 [] [] 0))) == true) (M_node_row_alone t0 x6)) fun (x7 : Bool) => cond ((!decide (x6 = (G_api_Node.mk 0 0 [] [] 0))) && (!x7)) (some false) ((M_node_row_may_l1 t0 x3 n1) (w64 (v4 + 1)))) (M_node_row_may_l2 (M_node_row_may_l1 t0 x3 n1) t0 fuel 0)
noncomputable def M_node_row_may (t0 : G_node_row) : Option Bool :=
  Option.bind (gd (((t0.Set.length : Int) != 8) == false) (getI t0.Set 0)) fun (x1 : G_api_Node) => cond (((t0.Set.length : Int) != 8) || (!decide (x1 = (G_api_Node.mk 2 0 [] [] 0)))) (some false) (Option.bind (slL t0.Set 1 (t0.Set.length : Int)) fun (x3 : (List G_api_Node)) => M_node_row_may_l1 t0 x3 fuel 0)
theorem ok_node_row_may (t0 : G_node_row) (r : Bool) (h : M_node_row_may t0 = some r) : FFn Tryz.prog 27 [(Value.agg (c_node_row t0).toArray)] (Bo r) := by
  refine FFn.of_body (n := 64) Tryz.func27 rfl Tryz.ntmps27 rfl rfl rfl rfl ?_
  show AWp _ _ _ ⟨64, 0, [(0, (Value.agg (c_node_row t0).toArray))], [], ⟨0, []⟩⟩
  unfold M_node_row_may at h
  refine awp_seq ?_
  refine awp_region ?_
  refine arun_do rfl rfl rfl (ex_box (vx := (Value.agg (c_node_row t0).toArray)) (cs := (c_node_row t0)) (k := 0) (L' := [(c_node_row t0)]) (eV (v := (Value.agg (c_node_row t0).toArray)) rfl) rfl rfl rfl) ?_
  refine arun_do rfl rfl rfl (ex_assign (eV (v := (Bo false)) rfl)) ?_
  refine arun_keepE [1] 1 0 (st' := ⟨64, 0, [(1, (LP 0 0))], [(c_node_row t0)], ⟨0, []⟩⟩) (by kernel_rfl) (by kernel_rfl) ?_
  show AWp _ _ _ _
  refine awp_seq ?_
  refine awp_seq ?_
  refine awp_region ?_
  refine arun_do rfl rfl rfl (ex_fieldAddr (v := (LP 0 0)) Tryz.underlying52 rfl s_25 (by decide) rfl rfl) ?_
  refine arun_do rfl rfl rfl (tx_ldL1 (v := (SL 5 c_api_Node t0.Set)) Tryz.underlying25 rfl rfl rfl rfl) ?_
  refine arun_do rfl rfl rfl (tx_lenD (xs := t0.Set) ce_api_Node Tryz.underlying25 rfl) ?_
  refine arun_do rfl rfl rfl (ex_bin (vx := (I (t0.Set.length : Int))) (vy := (I 8)) rfl rfl neqI_ok) ?_
  refine arun_do rfl rfl rfl (ex_move (eV (v := (Bo ((t0.Set.length : Int) != 8))) rfl)) ?_
  refine arun_guard (v := (LP 0 0)) (((t0.Set.length : Int) != 8) == false) rfl rfl rfl (fun hc => ex_fieldAddr (v := (LP 0 0)) Tryz.underlying52 rfl s_25 (by decide) rfl rfl) ?_
  refine arun_guard (v := (SL 5 c_api_Node t0.Set)) (((t0.Set.length : Int) != 8) == false) rfl rfl rfl (fun hc => tx_ldL1 (v := (SL 5 c_api_Node t0.Set)) Tryz.underlying25 rfl (cond_of hc) rfl rfl) ?_
  obtain ⟨x1, hx1, h⟩ := bindS h
  refine arun_guard (v := (DP (c_api_Node x1))) (((t0.Set.length : Int) != 8) == false) rfl rfl rfl (fun hc => tx_idxD (c := c_api_Node) (xs := t0.Set) (i := 0) ce_api_Node Tryz.underlying25 s_49 (cond_of hc) rfl (gd_of hc hx1)) ?_
  refine arun_guard (v := (Value.agg (c_api_Node x1).toArray)) (((t0.Set.length : Int) != 8) == false) rfl rfl rfl (fun hc => tx_ldDA (vs := (c_api_Node x1)) Tryz.underlying49 rfl s_49 (by decide) (cond_of hc) (Nat.le_of_ble_eq_true rfl) rfl) ?_
  refine arun_guard (v := (Value.agg (c_api_Node (G_api_Node.mk 2 0 [] [] 0)).toArray)) (((t0.Set.length : Int) != 8) == false) rfl rfl rfl (fun hc => ex_build (qs := [(0, (I 2))]) (v := (Value.agg (c_api_Node (G_api_Node.mk 2 0 [] [] 0)).toArray)) (evp rfl evp_nil) (by kernel_rfl)) ?_
  refine arun_guard (v := (Bo (!decide (x1 = (G_api_Node.mk 2 0 [] [] 0))))) (((t0.Set.length : Int) != 8) == false) rfl rfl rfl (fun hc => ex_bin (vx := (Value.agg (c_api_Node x1).toArray)) (vy := (Value.agg (c_api_Node (G_api_Node.mk 2 0 [] [] 0)).toArray)) (cond_of hc) (cond_of hc) neq_49) ?_
  refine arun_do rfl rfl rfl (ex_pick rfl pkOr) ?_
  refine arun_keepE [1, 18] 1 0 (st' := ⟨64, 0, [(1, (LP 0 0)), (18, (Bo (((t0.Set.length : Int) != 8) || (!decide (x1 = (G_api_Node.mk 2 0 [] [] 0))))))], [(c_node_row t0)], ⟨0, []⟩⟩) (by kernel_rfl) (by kernel_rfl) ?_
  show AWp _ _ _ _
  rcases Bool.eq_false_or_eq_true (((t0.Set.length : Int) != 8) || (!decide (x1 = (G_api_Node.mk 2 0 [] [] 0)))) with hb2 | hb2
  · rw [condT hb2] at h
    refine awp_condT (boT hb2) ?_
    refine awp_seq ?_
    refine awp_region ?_
    refine arun_do rfl rfl rfl (ex_assign (eV (v := (Bo false)) rfl)) ?_
    refine arun_keepE [2] 0 0 (st' := ⟨64, 0, [(2, (Bo false))], [], ⟨0, []⟩⟩) (by kernel_rfl) (by kernel_rfl) ?_
    show AWp _ _ _ _
    refine awp_ret ?_
    cases h
    exact ares1 (rtmp rfl (eV rfl))
  · rw [condF hb2] at h
    refine awp_condF (boF hb2) ?_
    refine awp_skip ?_
    show AWp _ _ _ _
    refine awp_seq ?_
    refine awp_seq ?_
    refine awp_region ?_
    refine arun_do rfl rfl rfl (ex_fieldAddr (v := (LP 0 0)) Tryz.underlying52 rfl s_25 (by decide) rfl rfl) ?_
    refine arun_do rfl rfl rfl (tx_ldL1 (v := (SL 5 c_api_Node t0.Set)) Tryz.underlying25 rfl rfl rfl rfl) ?_
    obtain ⟨x3, hx3, h⟩ := bindS h
    refine arun_do rfl rfl rfl (tx_slD (c := c_api_Node) (xs := t0.Set) ce_api_Node Tryz.underlying25 s_49 rfl (loX (l := 1) rfl) hiN hx3) ?_
    refine arun_do rfl rfl rfl (tx_lenD (xs := x3) ce_api_Node Tryz.underlying25 rfl) ?_
    refine arun_do rfl rfl rfl (ex_move (eV (v := (I 0)) rfl)) ?_
    refine arun_keepE [1, 21, 22, 23] 1 0 (st' := ⟨64, 0, [(1, (LP 0 0)), (21, (SL 5 c_api_Node x3)), (22, (I (x3.length : Int))), (23, (I 0))], [(c_node_row t0)], ⟨0, []⟩⟩) (by kernel_rfl) (by kernel_rfl) ?_
    show AWp _ _ _ _
    refine awp_block ?_
    refine awp_loop (fun n s => ∃ (v4 : Int), s = ⟨64, 0, [(1, (LP 0 0)), (21, (SL 5 c_api_Node x3)), (22, (I (x3.length : Int))), (23, (I v4))], [(c_node_row t0)], ⟨0, []⟩⟩ ∧ M_node_row_may_l1 t0 x3 n v4 = some r) fuel (Exists.intro 0 (And.intro rfl h)) ?_
    rintro n s ⟨v4, rfl, h⟩ -
    cases n with
    | zero => cases h
    | succ n1 =>
      unfold M_node_row_may_l1 at h
      refine awp_seq ?_
      refine awp_region ?_
      refine arun_do rfl rfl rfl (ex_bin (vx := (I v4)) (vy := (I (x3.length : Int))) rfl rfl lssI_ok) ?_
      refine arun_keepE [1, 21, 22, 23, 24] 1 0 (st' := ⟨64, 0, [(1, (LP 0 0)), (21, (SL 5 c_api_Node x3)), (22, (I (x3.length : Int))), (23, (I v4)), (24, (Bo (decide (v4 < (x3.length : Int)))))], [(c_node_row t0)], ⟨0, []⟩⟩) (by kernel_rfl) (by kernel_rfl) ?_
      show AWp _ _ _ _
      refine awp_seq ?_
      rcases Bool.eq_false_or_eq_true (decide (v4 < (x3.length : Int))) with hb5 | hb5
      · rw [condT hb5] at h
        refine awp_condT (boT hb5) ?_
        refine awp_skip ?_
        show AWp _ _ _ _
        refine awp_seq ?_
        refine awp_block ?_
        refine awp_seq ?_
        refine awp_region ?_
        obtain ⟨x6, hx6, h⟩ := bindS h
        refine arun_do rfl rfl rfl (tx_idxD (c := c_api_Node) (xs := x3) (i := v4) ce_api_Node Tryz.underlying25 s_49 rfl rfl hx6) ?_
        refine arun_do rfl rfl rfl (tx_ldDA (vs := (c_api_Node x6)) Tryz.underlying49 rfl s_49 (by decide) rfl (Nat.le_of_ble_eq_true rfl) rfl) ?_
        refine arun_do rfl rfl rfl (ex_alloc (k := 1) (zs := (c_api_Node (G_api_Node.mk 0 0 [] [] 0))) (L' := [(c_node_row t0), (c_api_Node (G_api_Node.mk 0 0 [] [] 0))]) z_49 rfl rfl rfl rfl) ?_
        refine arun_do0 rfl rfl (ex_storeL (vy := (Value.agg (c_api_Node x6).toArray)) (cs := (c_api_Node (G_api_Node.mk 0 0 [] [] 0))) (vs := (c_api_Node x6)) (L' := [(c_node_row t0), (c_api_Node x6)]) rfl (eV (v := (Value.agg (c_api_Node x6).toArray)) rfl) rfl s_49 rfl (Nat.le_of_ble_eq_true rfl) (by kernel_rfl)) ?_
        refine arun_keepE [1, 4, 21, 22, 23] 2 0 (st' := ⟨64, 0, [(1, (LP 0 0)), (4, (LP 1 0)), (21, (SL 5 c_api_Node x3)), (22, (I (x3.length : Int))), (23, (I v4))], [(c_node_row t0), (c_api_Node x6)], ⟨0, []⟩⟩) (by kernel_rfl) (by kernel_rfl) ?_
        show AWp _ _ _ _
        refine awp_seq ?_
        refine awp_region ?_
        refine arun_do rfl rfl rfl (tx_ldLA (vs := (c_api_Node x6)) Tryz.underlying49 rfl s_49 (by decide) rfl rfl rfl rfl) ?_
        refine arun_do rfl rfl rfl (ex_build (qs := []) (v := (Value.agg (c_api_Node (G_api_Node.mk 0 0 [] [] 0)).toArray)) evp_nil (by kernel_rfl)) ?_
        refine arun_do rfl rfl rfl (ex_bin (vx := (Value.agg (c_api_Node x6).toArray)) (vy := (Value.agg (c_api_Node (G_api_Node.mk 0 0 [] [] 0)).toArray)) rfl rfl neq_49) ?_
        refine arun_do rfl rfl rfl (ex_move (eV (v := (Bo (!decide (x6 = (G_api_Node.mk 0 0 [] [] 0))))) rfl)) ?_
        refine arun_guard (v := (Value.agg (c_node_row t0).toArray)) ((!decide (x6 = (G_api_Node.mk 0 0 [] [] 0))) == true) rfl rfl rfl (fun hc => tx_ldLA (vs := (c_node_row t0)) Tryz.underlying52 rfl s_52 (by decide) rfl rfl rfl rfl) ?_
        refine arun_guard (v := (Value.agg (c_api_Node x6).toArray)) ((!decide (x6 = (G_api_Node.mk 0 0 [] [] 0))) == true) rfl rfl rfl (fun hc => tx_ldLA (vs := (c_api_Node x6)) Tryz.underlying49 rfl s_49 (by decide) rfl rfl rfl rfl) ?_
        obtain ⟨x7, hx7, h⟩ := bindS h
        refine arun_guard (v := (Bo x7)) ((!decide (x6 = (G_api_Node.mk 0 0 [] [] 0))) == true) rfl rfl rfl (fun hc => ex_call0 (vs := [(Value.agg (c_node_row t0).toArray), (Value.agg (c_api_Node x6).toArray)]) (v := (Bo x7)) rfl en_43 (cargs (evs (cond_of hc) (evs (cond_of hc) evs_nil))) rfl (ok_node_row_alone t0 x6 x7 (gd_of hc hx7)) rfl) ?_
        refine arun_guard (v := (Bo (!x7))) ((!decide (x6 = (G_api_Node.mk 0 0 [] [] 0))) == true) rfl rfl rfl (fun hc => ex_un (vx := (Bo x7)) (cond_of hc) notB_ok) ?_
        refine arun_do rfl rfl rfl (ex_pick rfl pkAnd) ?_
        refine arun_keepE [1, 21, 22, 23, 35] 1 0 (st' := ⟨64, 0, [(1, (LP 0 0)), (21, (SL 5 c_api_Node x3)), (22, (I (x3.length : Int))), (23, (I v4)), (35, (Bo ((!decide (x6 = (G_api_Node.mk 0 0 [] [] 0))) && (!x7))))], [(c_node_row t0)], ⟨0, []⟩⟩) (by kernel_rfl) (by kernel_rfl) ?_
        show AWp _ _ _ _
        rcases Bool.eq_false_or_eq_true ((!decide (x6 = (G_api_Node.mk 0 0 [] [] 0))) && (!x7)) with hb8 | hb8
        · rw [condT hb8] at h
          refine awp_condT (boT hb8) ?_
          refine awp_seq ?_
          refine awp_region ?_
          refine arun_do rfl rfl rfl (ex_assign (eV (v := (Bo false)) rfl)) ?_
          refine arun_keepE [2] 0 0 (st' := ⟨64, 0, [(2, (Bo false))], [], ⟨0, []⟩⟩) (by kernel_rfl) (by kernel_rfl) ?_
          show AWp _ _ _ _
          refine awp_ret ?_
          cases h
          exact ares1 (rtmp rfl (eV rfl))
        · rw [condF hb8] at h
          refine awp_condF (boF hb8) ?_
          refine awp_skip ?_
          show AWp _ _ _ _
          refine awp_region ?_
          refine arun_do rfl rfl rfl (ex_bin (vx := (I v4)) (vy := (I 1)) rfl rfl addI_ok) ?_
          refine arun_do rfl rfl rfl (ex_move (eV (v := (I (w64 (v4 + 1)))) rfl)) ?_
          refine arun_keepE [1, 21, 22, 23] 1 0 (st' := ⟨64, 0, [(1, (LP 0 0)), (21, (SL 5 c_api_Node x3)), (22, (I (x3.length : Int))), (23, (I (w64 (v4 + 1))))], [(c_node_row t0)], ⟨0, []⟩⟩) (by kernel_rfl) (by kernel_rfl) ?_
          exact Exists.intro n1 (And.intro (Nat.lt_succ_self _) (Exists.intro (w64 (v4 + 1)) (And.intro rfl h)))
      · rw [condF hb5] at h
        refine awp_condF (boF hb5) ?_
        refine awp_exit ?_
        show AWp _ _ _ _
        refine awp_seq ?_
        refine awp_seq ?_
        refine awp_region ?_
        refine arun_do rfl rfl rfl (ex_fieldAddr (v := (LP 0 0)) Tryz.underlying52 rfl s_25 (by decide) rfl rfl) ?_
        refine arun_do rfl rfl rfl (tx_ldL1 (v := (SL 5 c_api_Node t0.Set)) Tryz.underlying25 rfl rfl rfl rfl) ?_
        refine arun_do rfl rfl rfl (tx_lenD (xs := t0.Set) ce_api_Node Tryz.underlying25 rfl) ?_
        refine arun_do rfl rfl rfl (ex_move (eV (v := (I 0)) rfl)) ?_
        refine arun_keepE [1, 38, 39, 40] 1 0 (st' := ⟨64, 0, [(1, (LP 0 0)), (38, (SL 5 c_api_Node t0.Set)), (39, (I (t0.Set.length : Int))), (40, (I 0))], [(c_node_row t0)], ⟨0, []⟩⟩) (by kernel_rfl) (by kernel_rfl) ?_
        show AWp _ _ _ _
        refine awp_block ?_
        refine awp_loop (fun n s => ∃ (v9 : Int), s = ⟨64, 0, [(1, (LP 0 0)), (38, (SL 5 c_api_Node t0.Set)), (39, (I (t0.Set.length : Int))), (40, (I v9))], [(c_node_row t0)], ⟨0, []⟩⟩ ∧ M_node_row_may_l2 (M_node_row_may_l1 t0 x3 n1) t0 n v9 = some r) fuel (Exists.intro 0 (And.intro rfl h)) ?_
        rintro n s ⟨v9, rfl, h⟩ -
        cases n with
        | zero => cases h
        | succ n2 =>
          unfold M_node_row_may_l2 at h
          refine awp_seq ?_
          refine awp_region ?_
          refine arun_do rfl rfl rfl (ex_bin (vx := (I v9)) (vy := (I (t0.Set.length : Int))) rfl rfl lssI_ok) ?_
          refine arun_keepE [1, 38, 39, 40, 41] 1 0 (st' := ⟨64, 0, [(1, (LP 0 0)), (38, (SL 5 c_api_Node t0.Set)), (39, (I (t0.Set.length : Int))), (40, (I v9)), (41, (Bo (decide (v9 < (t0.Set.length : Int)))))], [(c_node_row t0)], ⟨0, []⟩⟩) (by kernel_rfl) (by kernel_rfl) ?_
          show AWp _ _ _ _
          refine awp_seq ?_
          rcases Bool.eq_false_or_eq_true (decide (v9 < (t0.Set.length : Int))) with hb10 | hb10
          · rw [condT hb10] at h
            refine awp_condT (boT hb10) ?_
            refine awp_skip ?_
            show AWp _ _ _ _
            refine awp_seq ?_
            refine awp_block ?_
            refine awp_seq ?_
            refine awp_region ?_
            refine arun_do rfl rfl rfl (ex_move (eV (v := (I v9)) rfl)) ?_
            obtain ⟨x11, hx11, h⟩ := bindS h
            refine arun_do rfl rfl rfl (tx_idxD (c := c_api_Node) (xs := t0.Set) (i := v9) ce_api_Node Tryz.underlying25 s_49 rfl rfl hx11) ?_
            refine arun_do rfl rfl rfl (tx_ldDA (vs := (c_api_Node x11)) Tryz.underlying49 rfl s_49 (by decide) rfl (Nat.le_of_ble_eq_true rfl) rfl) ?_
            refine arun_do rfl rfl rfl (ex_alloc (k := 1) (zs := (c_api_Node (G_api_Node.mk 0 0 [] [] 0))) (L' := [(c_node_row t0), (c_api_Node (G_api_Node.mk 0 0 [] [] 0))]) z_49 rfl rfl rfl rfl) ?_
            refine arun_do rfl rfl rfl (ex_assign (eV (v := (I v9)) rfl)) ?_
            refine arun_do0 rfl rfl (ex_storeL (vy := (Value.agg (c_api_Node x11).toArray)) (cs := (c_api_Node (G_api_Node.mk 0 0 [] [] 0))) (vs := (c_api_Node x11)) (L' := [(c_node_row t0), (c_api_Node x11)]) rfl (eV (v := (Value.agg (c_api_Node x11).toArray)) rfl) rfl s_49 rfl (Nat.le_of_ble_eq_true rfl) (by kernel_rfl)) ?_
            refine arun_keepE [1, 5, 6, 38, 39, 40] 2 0 (st' := ⟨64, 0, [(1, (LP 0 0)), (5, (I v9)), (6, (LP 1 0)), (38, (SL 5 c_api_Node t0.Set)), (39, (I (t0.Set.length : Int))), (40, (I v9))], [(c_node_row t0), (c_api_Node x11)], ⟨0, []⟩⟩) (by kernel_rfl) (by kernel_rfl) ?_
            show AWp _ _ _ _
            refine awp_seq ?_
            refine awp_region ?_
            refine arun_do rfl rfl rfl (ex_move (eV (v := (I v9)) rfl)) ?_
            refine arun_do rfl rfl rfl (ex_bin (vx := (I v9)) (vy := (I 0)) rfl rfl gtrI_ok) ?_
            refine arun_do rfl rfl rfl (ex_move (eV (v := (Bo (decide (v9 > 0)))) rfl)) ?_
            refine arun_guard (v := (LP 1 0)) ((decide (v9 > 0)) == true) rfl rfl rfl (fun hc => ex_fieldAddr (v := (LP 1 0)) Tryz.underlying49 rfl s_3 (by decide) rfl rfl) ?_
            refine arun_guard (v := (I x11.Kind)) ((decide (v9 > 0)) == true) rfl rfl rfl (fun hc => tx_ldL1 (v := (I x11.Kind)) Tryz.underlying3 rfl (cond_of hc) rfl rfl) ?_
            refine arun_guard (v := (Bo (x11.Kind != 0))) ((decide (v9 > 0)) == true) rfl rfl rfl (fun hc => ex_bin (vx := (I x11.Kind)) (vy := (I 0)) (cond_of hc) rfl neqI_ok) ?_
            refine arun_do rfl rfl rfl (ex_pick rfl pkAnd) ?_
            refine arun_do rfl rfl rfl (ex_move (eV (v := (Bo ((decide (v9 > 0)) && (x11.Kind != 0)))) rfl)) ?_
            refine arun_guard (v := (Value.agg (c_node_row t0).toArray)) (((decide (v9 > 0)) && (x11.Kind != 0)) == true) rfl rfl rfl (fun hc => tx_ldLA (vs := (c_node_row t0)) Tryz.underlying52 rfl s_52 (by decide) rfl rfl rfl rfl) ?_
            refine arun_guard (v := (I v9)) (((decide (v9 > 0)) && (x11.Kind != 0)) == true) rfl rfl rfl (fun hc => ex_move (eV (v := (I v9)) rfl)) ?_
            obtain ⟨x12, hx12, h⟩ := bindS h
            refine arun_guard (v := (Bo x12)) (((decide (v9 > 0)) && (x11.Kind != 0)) == true) rfl rfl rfl (fun hc => ex_call0 (vs := [(Value.agg (c_node_row t0).toArray), (I v9)]) (v := (Bo x12)) rfl en_44 (cargs (evs (cond_of hc) (evs (cond_of hc) evs_nil))) rfl (ok_node_row_leads t0 v9 x12 (gd_of hc hx12)) rfl) ?_
            refine arun_guard (v := (Bo (!x12))) (((decide (v9 > 0)) && (x11.Kind != 0)) == true) rfl rfl rfl (fun hc => ex_un (vx := (Bo x12)) (cond_of hc) notB_ok) ?_
            refine arun_guard (v := (Bo (!x12))) (((decide (v9 > 0)) && (x11.Kind != 0)) == true) rfl rfl rfl (fun hc => ex_move (eV (v := (Bo (!x12))) (cond_of hc))) ?_
            refine arun_guard (v := (Value.agg (c_node_row t0).toArray)) ((((decide (v9 > 0)) && (x11.Kind != 0)) == true) && ((!x12) == false)) rfl rfl gv_nest (fun hc => tx_ldLA (vs := (c_node_row t0)) Tryz.underlying52 rfl s_52 (by decide) rfl rfl rfl rfl) ?_
            refine arun_guard (v := (I v9)) ((((decide (v9 > 0)) && (x11.Kind != 0)) == true) && ((!x12) == false)) rfl rfl gv_nest (fun hc => ex_move (eV (v := (I v9)) rfl)) ?_
            obtain ⟨x13, hx13, h⟩ := bindS h
            refine arun_guard (v := (Bo x13)) ((((decide (v9 > 0)) && (x11.Kind != 0)) == true) && ((!x12) == false)) rfl rfl gv_nest (fun hc => ex_call0 (vs := [(Value.agg (c_node_row t0).toArray), (I v9)]) (v := (Bo x13)) rfl en_45 (cargs (evs (cond_of hc) (evs (cond_of hc) evs_nil))) rfl (ok_node_row_twin t0 v9 x13 (gd_of hc hx13)) rfl) ?_
            refine arun_guard (v := (Bo ((!x12) || x13))) (((decide (v9 > 0)) && (x11.Kind != 0)) == true) rfl rfl rfl (fun hc => ex_pick (cond_of hc) (pkOrN hc)) ?_
            refine arun_do rfl rfl rfl (ex_pick rfl pkAnd) ?_
            refine arun_keepE [1, 38, 39, 40, 62] 1 0 (st' := ⟨64, 0, [(1, (LP 0 0)), (38, (SL 5 c_api_Node t0.Set)), (39, (I (t0.Set.length : Int))), (40, (I v9)), (62, (Bo (((decide (v9 > 0)) && (x11.Kind != 0)) && ((!x12) || x13))))], [(c_node_row t0)], ⟨0, []⟩⟩) (by kernel_rfl) (by kernel_rfl) ?_
            show AWp _ _ _ _
            rcases Bool.eq_false_or_eq_true (((decide (v9 > 0)) && (x11.Kind != 0)) && ((!x12) || x13)) with hb14 | hb14
            · rw [condT hb14] at h
              refine awp_condT (boT hb14) ?_
              refine awp_seq ?_
              refine awp_region ?_
              refine arun_do rfl rfl rfl (ex_assign (eV (v := (Bo false)) rfl)) ?_
              refine arun_keepE [2] 0 0 (st' := ⟨64, 0, [(2, (Bo false))], [], ⟨0, []⟩⟩) (by kernel_rfl) (by kernel_rfl) ?_
              show AWp _ _ _ _
              refine awp_ret ?_
              cases h
              exact ares1 (rtmp rfl (eV rfl))
            · rw [condF hb14] at h
              refine awp_condF (boF hb14) ?_
              refine awp_skip ?_
              show AWp _ _ _ _
              refine awp_region ?_
              refine arun_do rfl rfl rfl (ex_bin (vx := (I v9)) (vy := (I 1)) rfl rfl addI_ok) ?_
              refine arun_do rfl rfl rfl (ex_move (eV (v := (I (w64 (v9 + 1)))) rfl)) ?_
              refine arun_keepE [1, 38, 39, 40] 1 0 (st' := ⟨64, 0, [(1, (LP 0 0)), (38, (SL 5 c_api_Node t0.Set)), (39, (I (t0.Set.length : Int))), (40, (I (w64 (v9 + 1))))], [(c_node_row t0)], ⟨0, []⟩⟩) (by kernel_rfl) (by kernel_rfl) ?_
              exact Exists.intro n2 (And.intro (Nat.lt_succ_self _) (Exists.intro (w64 (v9 + 1)) (And.intro rfl h)))
          · rw [condF hb10] at h
            refine awp_condF (boF hb10) ?_
            refine awp_exit ?_
            show AWp _ _ _ _
            refine awp_seq ?_
            refine awp_region ?_
            refine arun_do rfl rfl rfl (ex_assign (eV (v := (Bo true)) rfl)) ?_
            refine arun_keepE [2] 0 0 (st' := ⟨64, 0, [(2, (Bo true))], [], ⟨0, []⟩⟩) (by kernel_rfl) (by kernel_rfl) ?_
            show AWp _ _ _ _
            refine awp_ret ?_
            cases h
            exact ares1 (rtmp rfl (eV rfl))

noncomputable def M_node_May (t0 : (List G_api_Node)) : Option Bool :=
  Option.bind (M_node_row_may (G_node_row.mk t0)) fun (x1 : Bool) => some x1
theorem ok_node_May (t0 : (List G_api_Node)) (r : Bool) (h : M_node_May t0 = some r) : FFn Tryz.prog 9 [(SL 5 c_api_Node t0)] (Bo r) := by
  refine FFn.of_body (n := 6) Tryz.func9 rfl Tryz.ntmps9 rfl rfl rfl rfl ?_
  show AWp _ _ _ ⟨6, 0, [(0, (SL 5 c_api_Node t0))], [], ⟨0, []⟩⟩
  unfold M_node_May at h
  refine awp_seq ?_
  refine awp_region ?_
  refine arun_do rfl rfl rfl (ex_assign (eV (v := (Bo false)) rfl)) ?_
  refine arun_keepE [0] 0 0 (st' := ⟨6, 0, [(0, (SL 5 c_api_Node t0))], [], ⟨0, []⟩⟩) (by kernel_rfl) (by kernel_rfl) ?_
  show AWp _ _ _ _
  refine awp_seq ?_
  refine awp_region ?_
  refine arun_do rfl rfl rfl (ex_move (eV (v := (SL 5 c_api_Node t0)) rfl)) ?_
  refine arun_do rfl rfl rfl (ex_build (qs := [(0, (SL 5 c_api_Node t0))]) (v := (Value.agg (c_node_row (G_node_row.mk t0)).toArray)) (evp rfl evp_nil) (by kernel_rfl)) ?_
  obtain ⟨x1, hx1, h⟩ := bindS h
  refine arun_do rfl rfl rfl (ex_call0 (vs := [(Value.agg (c_node_row (G_node_row.mk t0)).toArray)]) (v := (Bo x1)) rfl en_27 (cargs (evs rfl evs_nil)) rfl (ok_node_row_may (G_node_row.mk t0) x1 hx1) rfl) ?_
  refine arun_do rfl rfl rfl (ex_assign (eV (v := (Bo x1)) rfl)) ?_
  refine arun_keepE [2] 0 0 (st' := ⟨6, 0, [(2, (Bo x1))], [], ⟨0, []⟩⟩) (by kernel_rfl) (by kernel_rfl) ?_
  show AWp _ _ _ _
  refine awp_ret ?_
  cases h
  exact ares1 (rtmp rfl (eV rfl))

noncomputable def M_slices_Clone_api_Set_api_Node (t0 : (List G_api_Node)) : Option (List G_api_Node) :=
  Option.bind (appL 56 ([] : List G_api_Node) t0) fun (x3 : List G_api_Node) => some x3
theorem okw_slices_Clone_api_Set_api_Node (t0 : (List G_api_Node)) (r : (List G_api_Node)) (h : M_slices_Clone_api_Set_api_Node t0 = some r) : FOw Tryz.prog 48 [(SL 5 c_api_Node t0)] r.length ⟨5, (r).flatMap c_api_Node, true⟩ := by
  refine FOw.of_body (n := 8) Tryz.func48 rfl Tryz.ntmps48 rfl rfl rfl ?_
  show AWp _ _ _ ⟨8, 0, [(0, (SL 5 c_api_Node t0))], [], ⟨0, []⟩⟩
  unfold M_slices_Clone_api_Set_api_Node at h
  refine awp_seq ?_
  refine awp_region ?_
  refine arun_do rfl rfl rfl (ex_assign (eV (v := (Value.slice none 0 0)) rfl)) ?_
  refine arun_keepE [0] 0 0 (st' := ⟨8, 0, [(0, (SL 5 c_api_Node t0))], [], ⟨0, []⟩⟩) (by kernel_rfl) (by kernel_rfl) ?_
  show AWp _ _ _ _
  refine awp_seq ?_
  refine awp_seq ?_
  refine awp_region ?_
  refine arun_do rfl rfl rfl (ex_move (eV (v := (SL 5 c_api_Node t0)) rfl)) ?_
  refine arun_stepE (F := fun b : Bool => Bo b) (hp := fun b => b = true → t0 = []) rfl rfl rfl (isNil_ok (c := c_api_Node) (xs := t0) ce_api_Node Tryz.underlying25 rfl rfl) ?_
  intro bN1 hN_bN1
  refine arun_keepE [0, 4] 0 0 (st' := ⟨8, 0, [(0, (SL 5 c_api_Node t0)), (4, (Bo bN1))], [], ⟨0, []⟩⟩) (by kernel_rfl) (by kernel_rfl) ?_
  show AWp _ _ _ _
  rcases Bool.eq_false_or_eq_true bN1 with hb2 | hb2
  · skip
    refine awp_condT (boT hb2) ?_
    refine awp_seq ?_
    refine awp_region ?_
    refine arun_do rfl rfl rfl (ex_assign (eV (v := (Value.slice none 0 0)) rfl)) ?_
    refine arun_keepE [2] 0 0 (st' := ⟨8, 0, [(2, (Value.slice none 0 0))], [], ⟨0, []⟩⟩) (by kernel_rfl) (by kernel_rfl) ?_
    show AWp _ _ _ _
    obtain rfl := clone_nil (hN_bN1 hb2) h
    refine awp_nilGro 2 5 rfl (by decide) ?_
    refine awp_ret ?_
    exact And.intro (ares1 (rtmp rfl (eV rfl))) (And.intro rfl rfl)
  · skip
    refine awp_condF (boF hb2) ?_
    refine awp_skip ?_
    show AWp _ _ _ _
    refine awp_seq ?_
    refine awp_region ?_
    refine arun_do rfl rfl rfl (ex_buildSliceG (k := 0) (qs := []) (cells := (([] : List G_api_Node).flatMap c_api_Node)) (H' := ⟨1, [(0, ⟨5, (([] : List G_api_Node).flatMap c_api_Node), true⟩)]⟩) Tryz.underlying25 s_49 (by decide) (by decide) evp_nil rfl (by kernel_rfl) (by kernel_rfl) (by kernel_rfl) rfl rfl) ?_
    refine arun_do rfl rfl rfl (ex_move (eV (v := (SL 5 c_api_Node t0)) rfl)) ?_
    obtain ⟨x3, hx3, h⟩ := bindS h
    refine arun_do rfl rfl rfl (tx_appG (c := c_api_Node) (xs := []) (H' := ⟨1, [(0, ⟨5, ((x3).flatMap c_api_Node), true⟩)]⟩) ce_api_Node e_49 rfl rfl rfl (tsrcD (ys := t0) ce_api_Node Tryz.underlying25 s_49 Tryz.underlying25 rfl) hx3 rfl) ?_
    refine arun_do rfl rfl rfl (ex_assign (eV (v := (GV 0 x3.length)) rfl)) ?_
    refine arun_keepE [2] 0 1 (st' := ⟨8, 0, [(2, (GV 0 x3.length))], [], ⟨1, [(0, ⟨5, ((x3).flatMap c_api_Node), true⟩)]⟩⟩) (by kernel_rfl) (by kernel_rfl) ?_
    show AWp _ _ _ _
    refine awp_ret ?_
    cases h
    exact And.intro (ares1 (rtmp rfl (eV rfl))) (And.intro rfl rfl)

noncomputable def M_internal_strconv_small (t0 : Int) : Option Str :=
  cond (decide (t0 < 10)) (Option.bind (slL ([48, 49, 50, 51, 52, 53, 54, 55, 56, 57, 97, 98, 99, 100, 101, 102, 103, 104, 105, 106, 107, 108, 109, 110, 111, 112, 113, 114, 115, 116, 117, 118, 119, 120, 121, 122] : Str) t0 (w64 (t0 + 1))) fun (x2 : Str) => some x2) (Option.bind (slL ([48, 48, 48, 49, 48, 50, 48, 51, 48, 52, 48, 53, 48, 54, 48, 55, 48, 56, 48, 57, 49, 48, 49, 49, 49, 50, 49, 51, 49, 52, 49, 53, 49, 54, 49, 55, 49, 56, 49, 57, 50, 48, 50, 49, 50, 50, 50, 51, 50, 52, 50, 53, 50, 54, 50, 55, 50, 56, 50, 57, 51, 48, 51, 49, 51, 50, 51, 51, 51, 52, 51, 53, 51, 54, 51, 55, 51, 56, 51, 57, 52, 48, 52, 49, 52, 50, 52, 51, 52, 52, 52, 53, 52, 54, 52, 55, 52, 56, 52, 57, 53, 48, 53, 49, 53, 50, 53, 51, 53, 52, 53, 53, 53, 54, 53, 55, 53, 56, 53, 57, 54, 48, 54, 49, 54, 50, 54, 51, 54, 52, 54, 53, 54, 54, 54, 55, 54, 56, 54, 57, 55, 48, 55, 49, 55, 50, 55, 51, 55, 52, 55, 53, 55, 54, 55, 55, 55, 56, 55, 57, 56, 48, 56, 49, 56, 50, 56, 51, 56, 52, 56, 53, 56, 54, 56, 55, 56, 56, 56, 57, 57, 48, 57, 49, 57, 50, 57, 51, 57, 52, 57, 53, 57, 54, 57, 55, 57, 56, 57, 57] : Str) (w64 (t0 * 2)) (w64 ((w64 (t0 * 2)) + 2))) fun (x3 : Str) => some x3)
theorem ok_internal_strconv_small (t0 : Int) (r : Str) (h : M_internal_strconv_small t0 = some r) : FFn Tryz.prog 93 [(I t0)] (S r) := by
  refine FFn.of_body (n := 15) Tryz.func93 rfl Tryz.ntmps93 rfl rfl rfl rfl ?_
  show AWp _ _ _ ⟨15, 0, [(0, (I t0))], [], ⟨0, []⟩⟩
  unfold M_internal_strconv_small at h
  refine awp_seq ?_
  refine awp_region ?_
  refine arun_do rfl rfl rfl (ex_assign (eV (v := (S [])) rfl)) ?_
  refine arun_keepE [0] 0 0 (st' := ⟨15, 0, [(0, (I t0))], [], ⟨0, []⟩⟩) (by kernel_rfl) (by kernel_rfl) ?_
  show AWp _ _ _ _
  refine awp_seq ?_
  refine awp_seq ?_
  refine awp_region ?_
  refine arun_do rfl rfl rfl (ex_move (eV (v := (I t0)) rfl)) ?_
  refine arun_do rfl rfl rfl (ex_bin (vx := (I t0)) (vy := (I 10)) rfl rfl lssI_ok) ?_
  refine arun_keepE [0, 4] 0 0 (st' := ⟨15, 0, [(0, (I t0)), (4, (Bo (decide (t0 < 10))))], [], ⟨0, []⟩⟩) (by kernel_rfl) (by kernel_rfl) ?_
  show AWp _ _ _ _
  rcases Bool.eq_false_or_eq_true (decide (t0 < 10)) with hb1 | hb1
  · rw [condT hb1] at h
    refine awp_condT (boT hb1) ?_
    refine awp_seq ?_
    refine awp_region ?_
    refine arun_do rfl rfl rfl (ex_move (eV (v := (I t0)) rfl)) ?_
    refine arun_do rfl rfl rfl (ex_move (eV (v := (I t0)) rfl)) ?_
    refine arun_do rfl rfl rfl (ex_bin (vx := (I t0)) (vy := (I 1)) rfl rfl addI_ok) ?_
    obtain ⟨x2, hx2, h⟩ := bindS h
    refine arun_do rfl rfl rfl (tx_slS (u := ([48, 49, 50, 51, 52, 53, 54, 55, 56, 57, 97, 98, 99, 100, 101, 102, 103, 104, 105, 106, 107, 108, 109, 110, 111, 112, 113, 114, 115, 116, 117, 118, 119, 120, 121, 122] : Str)) Tryz.underlying9 rfl (loX (l := t0) rfl) (hiX (l := (w64 (t0 + 1))) rfl) hx2) ?_
    refine arun_do rfl rfl rfl (ex_assign (eV (v := (S x2)) rfl)) ?_
    refine arun_keepE [2] 0 0 (st' := ⟨15, 0, [(2, (S x2))], [], ⟨0, []⟩⟩) (by kernel_rfl) (by kernel_rfl) ?_
    show AWp _ _ _ _
    refine awp_ret ?_
    cases h
    exact ares1 (rtmp rfl (eV rfl))
  · rw [condF hb1] at h
    refine awp_condF (boF hb1) ?_
    refine awp_skip ?_
    show AWp _ _ _ _
    refine awp_seq ?_
    refine awp_region ?_
    refine arun_do rfl rfl rfl (ex_move (eV (v := (I t0)) rfl)) ?_
    refine arun_do rfl rfl rfl (ex_bin (vx := (I t0)) (vy := (I 2)) rfl rfl mulI_ok) ?_
    refine arun_do rfl rfl rfl (ex_move (eV (v := (I t0)) rfl)) ?_
    refine arun_do rfl rfl rfl (ex_bin (vx := (I t0)) (vy := (I 2)) rfl rfl mulI_ok) ?_
    refine arun_do rfl rfl rfl (ex_bin (vx := (I (w64 (t0 * 2)))) (vy := (I 2)) rfl rfl addI_ok) ?_
    obtain ⟨x3, hx3, h⟩ := bindS h
    refine arun_do rfl rfl rfl (tx_slS (u := ([48, 48, 48, 49, 48, 50, 48, 51, 48, 52, 48, 53, 48, 54, 48, 55, 48, 56, 48, 57, 49, 48, 49, 49, 49, 50, 49, 51, 49, 52, 49, 53, 49, 54, 49, 55, 49, 56, 49, 57, 50, 48, 50, 49, 50, 50, 50, 51, 50, 52, 50, 53, 50, 54, 50, 55, 50, 56, 50, 57, 51, 48, 51, 49, 51, 50, 51, 51, 51, 52, 51, 53, 51, 54, 51, 55, 51, 56, 51, 57, 52, 48, 52, 49, 52, 50, 52, 51, 52, 52, 52, 53, 52, 54, 52, 55, 52, 56, 52, 57, 53, 48, 53, 49, 53, 50, 53, 51, 53, 52, 53, 53, 53, 54, 53, 55, 53, 56, 53, 57, 54, 48, 54, 49, 54, 50, 54, 51, 54, 52, 54, 53, 54, 54, 54, 55, 54, 56, 54, 57, 55, 48, 55, 49, 55, 50, 55, 51, 55, 52, 55, 53, 55, 54, 55, 55, 55, 56, 55, 57, 56, 48, 56, 49, 56, 50, 56, 51, 56, 52, 56, 53, 56, 54, 56, 55, 56, 56, 56, 57, 57, 48, 57, 49, 57, 50, 57, 51, 57, 52, 57, 53, 57, 54, 57, 55, 57, 56, 57, 57] : Str)) Tryz.underlying9 rfl (loX (l := (w64 (t0 * 2))) rfl) (hiX (l := (w64 ((w64 (t0 * 2)) + 2))) rfl) hx3) ?_
    refine arun_do rfl rfl rfl (ex_assign (eV (v := (S x3)) rfl)) ?_
    refine arun_keepE [2] 0 0 (st' := ⟨15, 0, [(2, (S x3))], [], ⟨0, []⟩⟩) (by kernel_rfl) (by kernel_rfl) ?_
    show AWp _ _ _ _
    refine awp_ret ?_
    cases h
    exact ares1 (rtmp rfl (eV rfl))

end Go.Proofs
